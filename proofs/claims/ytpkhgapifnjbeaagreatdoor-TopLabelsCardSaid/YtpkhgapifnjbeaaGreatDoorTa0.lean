/- Put together by pack2.py. -/
import Derived.Test.YtpkhgapifnjbeaaGreatDoorProg
import Derived.Below
import Derived.Deep.Draws
import Derived.Deep.AppendLies
import Derived.Maps.AppendAt
import Derived.OwnWalk
import Derived.Laws.BytesArg
import Derived.Laws.MakeOwn
import Derived.Laws.OwnMore
import Derived.Deep.OwnRows
import Derived.Tactics
import Derived.Lib.ConvBytes
import Derived.Laws.Slices
import Derived.WalkKit
import Derived.KernelRfl
import Derived.RowKit3
import Derived.Deep.LoopGhost
import Derived.Deep.QuietTactic
import Derived.BigQuiet
import Derived.WideLaws
import Derived.Deep.DeepCutAuto
import Derived.Deep.CutBlock
import Derived.Deep.RegionHeld3
import Derived.Laws.Rows
import Derived.Lib.AppendStr
import Derived.ArgAppend
import Derived.Laws.IdiomCopy
import Derived.OrdersHeld
import Derived.Laws.BitsLemmas
import Derived.RowKit
import Derived.Test.YtpkhgapifnjbeaaGreatDoorTB3
set_option linter.unusedVariables false
set_option linter.unusedSimpArgs false
section
namespace Go.Proofs.YtpkhgapifnjbeaaGreatDoor.TL
open RowKit G Rs Zw.PrintWords Zw.PrintLast Zw.PrintMore
attribute [local go_sem] pd_ rd_ yd_ zd_ dd_ ed_ qd_ sd_
def errW : Option Int → Value
 | none => .nilIface
 | some c => .iface 0 (.int .i64 c)
theorem ib_ : errW none = .nilIface := rfl
theorem jb_ (c : Int) : errW (some c) = .iface 0 (.int .i64 c) := rfl
theorem zh_ : (Tryz.prog.info? 3).map (fun i => (i.zero, i.size, i.bytes)) = some (some (.int .i64 0), 1, 8) := by kernel_rfl
theorem uq_ : (Tryz.prog.info? 22).map (fun i => (i.zero, i.size, i.bytes)) = some (some (.slice none 0 0), 1, 24) := by kernel_rfl
theorem info38 : (Tryz.prog.info? 38).map (fun i => (i.zero, i.size, i.bytes)) = some (some (.agg #[(.int .i64 0), (.int .i64 0), (.int .i64 0), (.int .i64 0)]), 4, 32) := by kernel_rfl
theorem info58 : (Tryz.prog.info? 58).map (fun i => (i.zero, i.size, i.bytes)) = some (some (.agg #[(.int .i64 0), (.int .i64 0), (.int .i64 0)]), 3, 24) := by kernel_rfl
theorem info60 : (Tryz.prog.info? 60).map (fun i => (i.zero, i.size, i.bytes)) = some (some (.agg #[(.slice none 0 0)]), 1, 24) := by kernel_rfl
theorem cd1_ : (Tryz.prog.info? 65).map (fun i => (i.zero, i.size, i.bytes)) = some (some (.agg #[(.int .i64 0), (.int .i64 0), (.slice none 0 0)]), 3, 40) := by kernel_rfl
theorem sj1_ : (Tryz.prog.info? 100).map (fun i => (i.zero, i.size, i.bytes)) = some (some (.agg #[(.int .i64 0), (.int .i64 0), (.int .i64 0), (.int .i64 0), (.int .i64 0), (.int .i64 0)]), 6, 48) := by kernel_rfl
structure S58 where
 f0 : Int
 f1 : Int
 f2 : Int
def z58 : S58 := ⟨(0 : Int), (0 : Int), (0 : Int)⟩
def k58 : Kd S58 := Kd.iso (Kd.pair (Kd.int .i64) (Kd.pair (Kd.int .i64) (Kd.int .i64))) (fun x : S58 => (x.f0, x.f1, x.f2))
theorem vf1_ {w : World} {x : S58} {cs : List Value} (h : k58.K w x cs) : cs = [.int .i64 x.f0, .int .i64 x.f1, .int .i64 x.f2] := by
 obtain ⟨_, _, rfl, rfl, ⟨_, _, rfl, rfl, rfl⟩⟩ := h
 exact rfl
theorem yj1_ (w : World) (base : Nat) (ok : Nat → Prop) (x : S58)  : k58.M w base ok x [.int .i64 x.f0, .int .i64 x.f1, .int .i64 x.f2] := ⟨[.int .i64 x.f0], [.int .i64 x.f1, .int .i64 x.f2], rfl, rfl, ⟨[.int .i64 x.f1], [.int .i64 x.f2], rfl, rfl, rfl⟩⟩
def me_ (xs : List S58) (i : Int) : S58 := xs.getD i.toNat z58
theorem at_T58 {w : World} {A : Option Addr} {n : Nat} {xs : List S58} (h : Kd.C k58 w A n xs) (i : Int) (h0 : 0 ≤ i) (h1 : i < n) : ∃ ad , A = some ad ∧ w.cell? (ad.add (i.toNat * 3)) = some (.int .i64 (me_ xs i).f0) ∧ w.cell? ⟨(ad.add (i.toNat * 3)).block, (ad.add (i.toNat * 3)).off + 1, none⟩ = some (.int .i64 (me_ xs i).f1) ∧ w.cell? ⟨(ad.add (i.toNat * 3)).block, (ad.add (i.toNat * 3)).off + 2, none⟩ = some (.int .i64 (me_ xs i).f2) := by
 obtain ⟨ad, c, e, _, hK, hc0⟩ := Kd.yi_ h z58 i h0 h1
 have hc : ∀ j u, c[j]? = some u → w.cell? (ad.add (i.toNat * 3 + j)) = some u := hc0
 obtain rfl := vf1_ hK
 exact ⟨ad, e, hc 0 _ rfl, by rw [← uh_ _ _ 1 Qa]; exact hc 1 _ rfl, by rw [← uh_ _ _ 2 Qa]; exact hc 2 _ rfl⟩
def kf_ (xs : List (List Int)) (i : Int) : (List Int) := xs.getD i.toNat ([] : List Int)
theorem tz_ {w : World} {A : Option Addr} {n : Nat} {xs : List (List Int)} (h : Kd.C (Kd.slice 3 (Kd.int .i64)) w A n xs) (i : Int) (h0 : 0 ≤ i) (h1 : i < n) : ∃ ad A0 c0, A = some ad ∧ w.cell? (ad.add i.toNat) = some (.slice A0 (kf_ xs i).length c0) ∧ (kf_ xs i).length ≤ c0 ∧ (Kd.int .i64).C w A0 (kf_ xs i).length (kf_ xs i) := by
 obtain ⟨ad, c, e, _, hK, hc0⟩ := Kd.yi_ h ([] : List Int) i h0 h1
 have hc : ∀ j u, c[j]? = some u → w.cell? (ad.add (i.toNat * 1 + j)) = some u := hc0
 obtain ⟨A0, c0, rfl, l0, g0⟩ := hK
 exact ⟨ad, A0, c0, e, by have hq := hc 0 _ rfl; rwa [Nat.mul_one, Nat.add_zero] at hq, l0, g0⟩
structure S60 where
 f0 : (List (List Int))
def z60 : S60 := ⟨([] : List (List Int))⟩
def k60 : Kd S60 := Kd.iso (Kd.slice 22 (Kd.slice 3 (Kd.int .i64))) (fun x : S60 => x.f0)
theorem wf1_ {w : World} {x : S60} {cs : List Value} (h : k60.K w x cs) : ∃ A0 c0, cs = [.slice A0 x.f0.length c0] ∧ x.f0.length ≤ c0 ∧ (Kd.slice 3 (Kd.int .i64)).C w A0 x.f0.length x.f0 := by
 obtain ⟨A0, c0, rfl, l0, g0⟩ := h
 exact ⟨A0, c0, rfl, l0, g0⟩
theorem k60_mk (w : World) (x : S60) {A0 : Option Addr} {c0 : Nat} (l0 : x.f0.length ≤ c0) (g0 : (Kd.slice 3 (Kd.int .i64)).C w A0 x.f0.length x.f0) : k60.K w x [.slice A0 x.f0.length c0] := ⟨A0, c0, rfl, l0, g0⟩
theorem cx_ (W : World) (ok : Nat → Prop) (x : S60) {A0 : Option Addr} {c0 : Nat} (l0 : x.f0.length ≤ c0) (g0 : Kd.F (Kd.slice 3 (Kd.int .i64)) W ok A0 x.f0.length x.f0) : Kd.FK k60 W ok x [.slice A0 x.f0.length c0] := fun W2 hW => k60_mk W2 x l0 (g0 W2 hW)
def cm_ (xs : List S60) (i : Int) : S60 := xs.getD i.toNat z60
theorem yh1_ {w : World} {A : Option Addr} {n : Nat} {xs : List S60} (h : Kd.C k60 w A n xs) (i : Int) (h0 : 0 ≤ i) (h1 : i < n) : ∃ ad A0 c0, A = some ad ∧ w.cell? (ad.add i.toNat) = some (.slice A0 (cm_ xs i).f0.length c0) ∧ (cm_ xs i).f0.length ≤ c0 ∧ (Kd.slice 3 (Kd.int .i64)).C w A0 (cm_ xs i).f0.length (cm_ xs i).f0 := by
 obtain ⟨ad, c, e, _, hK, hc0⟩ := Kd.yi_ h z60 i h0 h1
 have hc : ∀ j u, c[j]? = some u → w.cell? (ad.add (i.toNat * 1 + j)) = some u := hc0
 obtain ⟨A0, c0, rfl, l0, g0⟩ := wf1_ hK
 exact ⟨ad, A0, c0, e, by have hq := hc 0 _ rfl; rwa [Nat.mul_one, Nat.add_zero] at hq, l0, g0⟩
structure S38 where
 f0 : Int
 f1 : Int
 f2 : Int
 f3 : Int
def z38 : S38 := ⟨(0 : Int), (0 : Int), (0 : Int), (0 : Int)⟩
def k38 : Kd S38 := Kd.iso (Kd.pair (Kd.int .i64) (Kd.pair (Kd.int .i64) (Kd.pair (Kd.int .i64) (Kd.int .i64)))) (fun x : S38 => (x.f0, x.f1, x.f2, x.f3))
theorem uf1_ {w : World} {x : S38} {cs : List Value} (h : k38.K w x cs) : cs = [.int .i64 x.f0, .int .i64 x.f1, .int .i64 x.f2, .int .i64 x.f3] := by
 obtain ⟨_, _, rfl, rfl, ⟨_, _, rfl, rfl, ⟨_, _, rfl, rfl, rfl⟩⟩⟩ := h
 exact rfl
theorem xj1_ (w : World) (base : Nat) (ok : Nat → Prop) (x : S38)  : k38.M w base ok x [.int .i64 x.f0, .int .i64 x.f1, .int .i64 x.f2, .int .i64 x.f3] := ⟨[.int .i64 x.f0], [.int .i64 x.f1, .int .i64 x.f2, .int .i64 x.f3], rfl, rfl, ⟨[.int .i64 x.f1], [.int .i64 x.f2, .int .i64 x.f3], rfl, rfl, ⟨[.int .i64 x.f2], [.int .i64 x.f3], rfl, rfl, rfl⟩⟩⟩
def qe_ (xs : List S38) (i : Int) : S38 := xs.getD i.toNat z38
theorem ey_ {w : World} {A : Option Addr} {n : Nat} {xs : List S38} (h : Kd.C k38 w A n xs) (i : Int) (h0 : 0 ≤ i) (h1 : i < n) : ∃ ad , A = some ad ∧ w.cell? (ad.add (i.toNat * 4)) = some (.int .i64 (qe_ xs i).f0) ∧ w.cell? ⟨(ad.add (i.toNat * 4)).block, (ad.add (i.toNat * 4)).off + 1, none⟩ = some (.int .i64 (qe_ xs i).f1) ∧ w.cell? ⟨(ad.add (i.toNat * 4)).block, (ad.add (i.toNat * 4)).off + 2, none⟩ = some (.int .i64 (qe_ xs i).f2) ∧ w.cell? ⟨(ad.add (i.toNat * 4)).block, (ad.add (i.toNat * 4)).off + 3, none⟩ = some (.int .i64 (qe_ xs i).f3) := by
 obtain ⟨ad, c, e, _, hK, hc0⟩ := Kd.yi_ h z38 i h0 h1
 have hc : ∀ j u, c[j]? = some u → w.cell? (ad.add (i.toNat * 4 + j)) = some u := hc0
 obtain rfl := uf1_ hK
 exact ⟨ad, e, hc 0 _ rfl, by rw [← uh_ _ _ 1 Qa]; exact hc 1 _ rfl, by rw [← uh_ _ _ 2 Qa]; exact hc 2 _ rfl, by rw [← uh_ _ _ 3 Qa]; exact hc 3 _ rfl⟩
structure S100 where
 f0 : Int
 f1 : Int
 f2 : Int
 f3 : Int
 f4 : Int
 f5 : Int
def z100 : S100 := ⟨(0 : Int), (0 : Int), (0 : Int), (0 : Int), (0 : Int), (0 : Int)⟩
def k100 : Kd S100 := Kd.iso (Kd.pair (Kd.int .i64) (Kd.pair (Kd.int .i64) (Kd.pair (Kd.int .i64) (Kd.pair (Kd.int .i64) (Kd.pair (Kd.int .i64) (Kd.int .i64)))))) (fun x : S100 => (x.f0, x.f1, x.f2, x.f3, x.f4, x.f5))
theorem gd1_ {w : World} {x : S100} {cs : List Value} (h : k100.K w x cs) : cs = [.int .i64 x.f0, .int .i64 x.f1, .int .i64 x.f2, .int .i64 x.f3, .int .i64 x.f4, .int .i64 x.f5] := by
 obtain ⟨_, _, rfl, rfl, ⟨_, _, rfl, rfl, ⟨_, _, rfl, rfl, ⟨_, _, rfl, rfl, ⟨_, _, rfl, rfl, rfl⟩⟩⟩⟩⟩ := h
 exact rfl
theorem tf1_ (w : World) (base : Nat) (ok : Nat → Prop) (x : S100)  : k100.M w base ok x [.int .i64 x.f0, .int .i64 x.f1, .int .i64 x.f2, .int .i64 x.f3, .int .i64 x.f4, .int .i64 x.f5] := ⟨[.int .i64 x.f0], [.int .i64 x.f1, .int .i64 x.f2, .int .i64 x.f3, .int .i64 x.f4, .int .i64 x.f5], rfl, rfl, ⟨[.int .i64 x.f1], [.int .i64 x.f2, .int .i64 x.f3, .int .i64 x.f4, .int .i64 x.f5], rfl, rfl, ⟨[.int .i64 x.f2], [.int .i64 x.f3, .int .i64 x.f4, .int .i64 x.f5], rfl, rfl, ⟨[.int .i64 x.f3], [.int .i64 x.f4, .int .i64 x.f5], rfl, rfl, ⟨[.int .i64 x.f4], [.int .i64 x.f5], rfl, rfl, rfl⟩⟩⟩⟩⟩
def hd_ (xs : List S100) (i : Int) : S100 := xs.getD i.toNat z100
theorem eq_ {w : World} {A : Option Addr} {n : Nat} {xs : List S100} (h : Kd.C k100 w A n xs) (i : Int) (h0 : 0 ≤ i) (h1 : i < n) : ∃ ad , A = some ad ∧ w.cell? (ad.add (i.toNat * 6)) = some (.int .i64 (hd_ xs i).f0) ∧ w.cell? ⟨(ad.add (i.toNat * 6)).block, (ad.add (i.toNat * 6)).off + 1, none⟩ = some (.int .i64 (hd_ xs i).f1) ∧ w.cell? ⟨(ad.add (i.toNat * 6)).block, (ad.add (i.toNat * 6)).off + 2, none⟩ = some (.int .i64 (hd_ xs i).f2) ∧ w.cell? ⟨(ad.add (i.toNat * 6)).block, (ad.add (i.toNat * 6)).off + 3, none⟩ = some (.int .i64 (hd_ xs i).f3) ∧ w.cell? ⟨(ad.add (i.toNat * 6)).block, (ad.add (i.toNat * 6)).off + 4, none⟩ = some (.int .i64 (hd_ xs i).f4) ∧ w.cell? ⟨(ad.add (i.toNat * 6)).block, (ad.add (i.toNat * 6)).off + 5, none⟩ = some (.int .i64 (hd_ xs i).f5) := by
 obtain ⟨ad, c, e, _, hK, hc0⟩ := Kd.yi_ h z100 i h0 h1
 have hc : ∀ j u, c[j]? = some u → w.cell? (ad.add (i.toNat * 6 + j)) = some u := hc0
 obtain rfl := gd1_ hK
 exact ⟨ad, e, hc 0 _ rfl, by rw [← uh_ _ _ 1 Qa]; exact hc 1 _ rfl, by rw [← uh_ _ _ 2 Qa]; exact hc 2 _ rfl, by rw [← uh_ _ _ 3 Qa]; exact hc 3 _ rfl, by rw [← uh_ _ _ 4 Qa]; exact hc 4 _ rfl, by rw [← uh_ _ _ 5 Qa]; exact hc 5 _ rfl⟩
structure S65 where
 f0 : Int
 f1 : Int
 f2 : (List S100)
def k65 : Kd S65 := Kd.iso (Kd.pair (Kd.int .i64) (Kd.pair (Kd.int .i64) (Kd.slice 100 k100))) (fun x : S65 => (x.f0, x.f1, x.f2))
theorem k65_mk (w : World) (x : S65) {A2 : Option Addr} {c2 : Nat} (l2 : x.f2.length ≤ c2) (g2 : k100.C w A2 x.f2.length x.f2) : k65.K w x [.int .i64 x.f0, .int .i64 x.f1, .slice A2 x.f2.length c2] := ⟨[.int .i64 x.f0], [.int .i64 x.f1, .slice A2 x.f2.length c2], rfl, rfl, ⟨[.int .i64 x.f1], [.slice A2 x.f2.length c2], rfl, rfl, ⟨A2, c2, rfl, l2, g2⟩⟩⟩
theorem hd1_ (W : World) (ok : Nat → Prop) (x : S65) {A2 : Option Addr} {c2 : Nat} (l2 : x.f2.length ≤ c2) (g2 : Kd.F k100 W ok A2 x.f2.length x.f2) : Kd.FK k65 W ok x [.int .i64 x.f0, .int .i64 x.f1, .slice A2 x.f2.length c2] := fun W2 hW => k65_mk W2 x l2 (g2 W2 hW)
theorem eqA38 (d : Nat) (w : World) (x0 y0 : Int) (x1 y1 : Int) (x2 y2 : Int) (x3 y3 : Int) :
  (Op.equalIn (d + 2) 38 (.agg #[.int .i64 x0, .int .i64 x1, .int .i64 x2, .int .i64 x3]) (.agg #[.int .i64 y0, .int .i64 y1, .int .i64 y2, .int .i64 y3])).run Tryz.prog w = .ok (x0 == y0 && (x1 == y1 && (x2 == y2 && (x3 == y3)))) w := by
 refine eqA_of Tryz.underlying38 Qb ?_
 refine st_ (by rfl) (by go_simp; rfl) (by go_simp; rfl) (by go_simp) ?_
 refine st_ (by rfl) (by go_simp; rfl) (by go_simp; rfl) (by go_simp) ?_
 refine st_ (by rfl) (by go_simp; rfl) (by go_simp; rfl) (by go_simp) ?_
 exact nf1_ (by rfl) (by go_simp; rfl) (by go_simp; rfl) (by go_simp)
def ga_ (w0 W : World) (g : Nat) (f0 : List Int) (f1 : Int) : Prop := ∃ A0 c0, W.heap[g]? = some (.cells #[.slice A0 f0.length c0, .int .i64 f1] 56 (0, 0)) ∧ w0.heap.size ≤ g ∧ Kd.C (Kd.int .i64) w0 A0 f0.length f0
theorem ga_.grown {w0 W : World} {g : Nat} {f0 : List Int} {f1 : Int} {W1 : World} {row : Option Nat} (h : ga_ w0 W g f0 f1) (hw : W.grownBy W1 row) (hne : some g ≠ row) : ga_ w0 W1 g f0 f1 := by
 obtain ⟨A0, c0, hb, hg, hr0⟩ := h
 exact ⟨A0, c0, ce_ hb hw hne, hg, hr0⟩
theorem ga_.dn_ {w0 W : World} {g : Nat} {f0 : List Int} {f1 : Int} {α : Type} {d : Kd α} {e : Nat} {base : Nat} {ok : Nat → Prop} {v : Value} {xs : List α} (h : ga_ w0 W g f0 f1) (ho : Kd.N d e W base ok v xs) (ht : e ≠ 56) : some g ≠ v.ownBlock := by
 obtain ⟨A0, c0, hb, hg, hr0⟩ := h
 exact Kd.N_ne ho hb ht
theorem ga_.fresh {w0 W : World} {g : Nat} {f0 : List Int} {f1 : Int} (h : ga_ w0 W g f0 f1) : ∀ k, W.heap.size ≤ k → k ≠ g := by
 obtain ⟨A0, c0, hb, hg, hr0⟩ := h
 exact Kd.ff_ hb
theorem ga_.below {w0 W : World} {g : Nat} {f0 : List Int} {f1 : Int} {W1 : World} (h : ga_ w0 W g f0 f1) (hw : Below W.heap.size W W1) : ga_ w0 W1 g f0 f1 := h.grown (pm_ hw none) Qj
theorem ga_.alloc {w0 W : World} {g : Nat} {f0 : List Int} {f1 : Int} (h : ga_ w0 W g f0 f1) (o : Obj) : ga_ w0 (W.alloc o) g f0 f1 := h.below (da_ (Below.refl _ _) o)
theorem ga_.drewN {w0 W : World} {g : Nat} {f0 : List Int} {f1 : Int} (h : ga_ w0 W g f0 f1) (m : Nat) : ga_ w0 (W.drewN m) g f0 f1 := h
theorem ga_.drew {w0 W : World} {g : Nat} {f0 : List Int} {f1 : Int} (h : ga_ w0 W g f0 f1) : ga_ w0 W.drew g f0 f1 := h
theorem ga_.apart {w0 W : World} {g : Nat} {f0 : List Int} {f1 : Int} {α : Type} {d : Kd α} {e : Nat} {base : Nat} {ok : Nat → Prop} {v : Value} {xs : List α} (h : ga_ w0 W g f0 f1) (ho : d.R e W base ok v xs) (ht : ∀ q, q ∈ e :: d.E → q ≠ 56) : d.R e W base (fun k => ok k ∧ k ≠ g) v xs := by
 obtain ⟨A0, c0, hb, hg, hr0⟩ := h
 exact Kd.xe_ ho hb ht
theorem ga_.el_ {w0 W : World} {g : Nat} {f0 : List Int} {f1 : Int} {α : Type} {d : Kd α} {e : Nat} {base : Nat} {ok : Nat → Prop} {v : Value} {xs : List α} (h : ga_ w0 W g f0 f1) (ho : d.R e W base ok v xs) (ht : e ≠ 56) : some g ≠ v.ownBlock := by
 obtain ⟨A0, c0, hb, hg, hr0⟩ := h
 exact Kd.R_ne ho hb ht
theorem ga_.lt {w0 W : World} {g : Nat} {f0 : List Int} {f1 : Int} (h : ga_ w0 W g f0 f1) : g < W.heap.size := by
 obtain ⟨A0, c0, hb, hg, hr0⟩ := h
 exact bg_ hb
theorem ga_.ge {w0 W : World} {g : Nat} {f0 : List Int} {f1 : Int} (h : ga_ w0 W g f0 f1) : w0.heap.size ≤ g := by
 obtain ⟨A0, c0, hb, hg, hr0⟩ := h
 exact hg
theorem ga_.far {w0 W : World} {g : Nat} {f0 : List Int} {f1 : Int} {p : Addr} (h : ga_ w0 W g f0 f1) (hne : g ≠ p.block) (u : Value) : ga_ w0 (W.setCell p u) g f0 f1 := by
 obtain ⟨A0, c0, hb, hg, hr0⟩ := h
 exact ⟨A0, c0, ie_ hb hne u, hg, hr0⟩
theorem nu_ {W : World} {g : Nat} {A0 : Option Addr} {c0 : Nat} {f0 : List Int} {f1 : Int} (h : W.heap[g]? = some (.cells #[.slice A0 f0.length c0, .int .i64 f1] 56 (0, 0))) : W.cell? ⟨g, 0, none⟩ = some (.slice A0 f0.length c0) := (la_ h 0).trans rfl
theorem ou_ {W : World} {g : Nat} {A0 : Option Addr} {c0 : Nat} {f0 : List Int} {f1 : Int} (h : W.heap[g]? = some (.cells #[.slice A0 f0.length c0, .int .i64 f1] 56 (0, 0))) : W.cell? ⟨g, 1, none⟩ = some (.int .i64 f1) := (la_ h 1).trans rfl
theorem ga_.tc_ {w0 W : World} {g : Nat} {f0 : List Int} {f1 : Int} (h : ga_ w0 W g f0 f1) (x : Int) : ga_ w0 (W.setCell ⟨g, 1, none⟩ (.int .i64 x)) g f0 x := by
 obtain ⟨A0, c0, hb, hg, hr0⟩ := h
 exact ⟨A0, c0, by simpa using mw_ hb 1 (.int .i64 x), hg, hr0⟩
def ke_.f (l0 : List Int) : Option (List Int × Int) := if (l0.length : Int) > 600 then (if 600 ≤ (l0.length : Int) then (some (l0.take 600, 0)) else (none)) else (some (l0, 0))
set_option maxHeartbeats 8000000 in
set_option maxRecDepth 100000 in
theorem ke_.calls (A0 : Option Addr) (c0 : Nat) (l0 : List Int) (r1 : List Int) (r2 : Int) (w0 w : World) (hB : Below w0.heap.size w0 w) (hr0 : Kd.C (Kd.int .i64) w0 A0 l0.length l0) (hc0 : l0.length ≤ c0) (h : ke_.f l0 = some (r1, r2)) :
  Calls Tryz.prog 8 #[.slice A0 l0.length c0] w fun e w' => ∃ g_ : Nat, e = .returned (.pointer (some ⟨g_, 0, none⟩)) ∧ ga_ w0 w' g_ r1 r2 ∧ Below w0.heap.size w0 w' ∧ Below w.heap.size w w' := by
 have hu56 := Tryz.underlying56
 have HR0 := ba_.mk hr0
 have HC0 := ba_.mk hc0
 clear hr0 hc0
 have HBW := ba_.mk (Below.refl w.heap.size w)
 have HW0 := ba_.mk hB.size
 have HB := ba_.mk hB
 clear hB
 have H : (if (l0.length : Int) > 600 then (if 600 ≤ (l0.length : Int) then (some (l0.take 600, 0)) else (none)) else (some (l0, 0))) = some (r1, r2) := h
 clear h
 by_cases c2 : (l0.length : Int) > 600
 rotate_left
 ·rw [if_neg c2] at H
  have c2b0 : decide (600 < (l0.length : Int)) = false := decide_eq_false c2
  have c2b1 : decide (600 < l0.length) = false := decide_eq_false Qa
  clear c2
  simp only [Option.some.injEq, Prod.mk.injEq] at H
  obtain ⟨rfl, rfl⟩ := H
  go_enter Tryz.func8, Tryz.ntmps8
  go_wp2_with (first | ((with_reducible refine ld_ (N := 10) rfl ?_); refine de_ ?hg (N := 10) ?hd (cs := #[.slice A0 l0.length c0, .int .i64 0]) (t := 56) ?hr ?_; (case hd => rfl); (case hg => rfl); (case hr => exact Qt); intro gb103 hg w6 hbox hb; have n0_ := ba_.mk (hb_ HBW.out hb); have n1_ := ba_.mk (hb_ Qh hb); have n2_ := ba_.mk (hbox); have n3_ := ba_.mk ((by rw [hg]; exact (pb_ Y9) : w.heap.size ≤ gb103)); have n4_ := ba_.mk ((Nat.le_trans HW0.out (by rw [hg]; exact (pb_ Y9) : w.heap.size ≤ gb103) : w0.heap.size ≤ gb103)); clear HBW; clear HB; have HBW := n0_; have HB := n1_; have BK103 := n2_; have GW103 := n3_; have GE103 := n4_; clear n0_ n1_ n2_ n3_ n4_; clear hb hbox hg))
  go_ret
  exact ⟨_, rfl, (show ga_ w0 _ gb103 l0 0 from ⟨_, _, by (with_reducible repeat (first | refine ia_ ?_ _ | refine ma_ ?_ | refine ha_ ?_ _)); exact BK103.out, GE103.out, HR0.out⟩), by repeat (first | (with_reducible first | exact HB.out | apply da_ | apply aa_ | apply ca_ | refine fa_ ?_ GE103.out) | exact HB.out), by repeat (first | (with_reducible first | exact HBW.out | apply da_ | apply aa_ | apply ca_ | refine fa_ ?_ GW103.out) | exact HBW.out)⟩
 rw [if_pos c2] at H
 have c2b0 : decide (600 < (l0.length : Int)) = true := decide_eq_true c2
 have c2b1 : decide (600 < l0.length) = true := decide_eq_true Qa
 clear c2
 by_cases c3 : 600 ≤ (l0.length : Int)
 rotate_left
 ·rw [if_neg c3] at H
  exact absurd H Qj
 rw [if_pos c3] at H
 have c3b0 := eq_true c3
 have c3b1 := decide_eq_true c3
 clear c3
 simp only [Option.some.injEq, Prod.mk.injEq] at H
 obtain ⟨rfl, rfl⟩ := H
 obtain ⟨i04, hi04, _, hsz4, _⟩ := info_parts zh_
 obtain ⟨hcut4, hA4, hC4⟩ := bu_ (P := Tryz.prog) (Value.int .i64) 0 22 3 .i64 Tryz.underlying22 hi04 hsz4 A0 c0 l0 600 Qa (of_decide_eq_true Qi) HC0.out
 have HR101 := ba_.mk (Kd.zr_ (h1 := fun _ => rfl) (hA4 _ (Kd.po_ HR0.out)))
 have HC101 := ba_.mk hC4
 clear hA4 hC4 hi04 hsz4
 go_enter Tryz.func8, Tryz.ntmps8
 go_wp2_with (first | ((with_reducible refine ld_ (N := 10) rfl ?_); refine de_ ?hg (N := 10) ?hd (cs := #[.slice A0 (l0.take 600).length c0, .int .i64 0]) (t := 56) ?hr ?_; (case hd => rfl); (case hg => rfl); (case hr => exact Qt); intro gb102 hg w5 hbox hb; have n0_ := ba_.mk (hb_ HBW.out hb); have n1_ := ba_.mk (hb_ Qh hb); have n2_ := ba_.mk (hbox); have n3_ := ba_.mk ((by rw [hg]; exact (pb_ Y9) : w.heap.size ≤ gb102)); have n4_ := ba_.mk ((Nat.le_trans HW0.out (by rw [hg]; exact (pb_ Y9) : w.heap.size ≤ gb102) : w0.heap.size ≤ gb102)); clear HBW; clear HB; have HBW := n0_; have HB := n1_; have BK102 := n2_; have GW102 := n3_; have GE102 := n4_; clear n0_ n1_ n2_ n3_ n4_; clear hb hbox hg))
 go_ret
 exact ⟨_, rfl, (show ga_ w0 _ gb102 (l0.take 600) 0 from ⟨_, _, by (with_reducible repeat (first | refine ia_ ?_ _ | refine ma_ ?_ | refine ha_ ?_ _)); exact BK102.out, GE102.out, HR101.out⟩), by repeat (first | (with_reducible first | exact HB.out | apply da_ | apply aa_ | apply ca_ | refine fa_ ?_ GE102.out) | exact HB.out), by repeat (first | (with_reducible first | exact HBW.out | apply da_ | apply aa_ | apply ca_ | refine fa_ ?_ GW102.out) | exact HBW.out)⟩
mutual
def nb_.l0 : Nat → List (S38) → Int → Int → List (S65) → List (S60) → List (S58) → Option ((List (S38)))
 | 0, _, _, _, _, _, _ => none
 | k + 1, x3, x4, x105000, x105001, x105002, x105003 => if x4 < (x105003.length : Int) then (if 0 ≤ x4 then (nb_.l1 k x3 x4 0 x105000 x105001 x105002 x105003 ((me_ x105003 x4).f0) ((me_ x105003 x4).f1) ((me_ x105003 x4).f2)) else (none)) else (some x3)
def nb_.l1 : Nat → List (S38) → Int → Int → Int → List (S65) → List (S60) → List (S58) → Int → Int → Int → Option ((List (S38)))
 | 0, _, _, _, _, _, _, _, _, _, _ => none
 | k + 1, x3, x4, x6, x105000, x105001, x105002, x105003, x107000, x107001, x107002 => if 0 ≤ x107002 then (if x107002 < (x105002.length : Int) then (if x6 < (((cm_ x105002 x107002).f0).length : Int) then (if x3.length < 4398046511104 then (nb_.l1 k (x3 ++ [(⟨x105000, x107000, x6, x107002⟩ : S38)]) x4 (wrap64 (x6 + 1)) x105000 x105001 x105002 x105003 x107000 x107001 x107002) else (none)) else (nb_.l0 k x3 (wrap64 (x4 + 1)) x105000 x105001 x105002 x105003)) else (none)) else (none)
end
def nb_.f (k : Nat) (a0_0 : Int) (l0_1 : List (S65)) (l0_2 : List (S60)) (l0_3 : List (S58)) : Option ((List (S38))) := nb_.l0 k ([] : List (S38)) 0 a0_0 l0_1 l0_2 l0_3
theorem nb_.nd_ : ∀ k, (∀ y0 y1 y2 y3 y4 y5, LeO (nb_.l0 k y0 y1 y2 y3 y4 y5) (nb_.l0 (k + 1) y0 y1 y2 y3 y4 y5)) ∧ (∀ y0 y1 y2 y3 y4 y5 y6 y7 y8 y9, LeO (nb_.l1 k y0 y1 y2 y3 y4 y5 y6 y7 y8 y9) (nb_.l1 (k + 1) y0 y1 y2 y3 y4 y5 y6 y7 y8 y9))
 | 0 => ⟨fun _ _ _ _ _ _ r h => by simp [nb_.l0] at h, fun _ _ _ _ _ _ _ _ _ _ r h => by simp [nb_.l1] at h⟩
 | k + 1 => by
  obtain ⟨ih0, ih1⟩ := nb_.nd_ k
  refine ⟨?_, ?_⟩
  ·intro y0 y1 y2 y3 y4 y5
   unfold nb_.l0
   exact Qr
  intro y0 y1 y2 y3 y4 y5 y6 y7 y8 y9
  unfold nb_.l1
  exact Qr
theorem nb_.mono : ∀ a0 a1 a2 a3 k, LeO (nb_.f k a0 a1 a2 a3) (nb_.f (k + 1) a0 a1 a2 a3) := by
 intro a0 a1 a2 a3 k
 obtain ⟨ih0, ih1⟩ := nb_.nd_ k
 unfold nb_.f
 exact Qr
set_option maxHeartbeats 8000000 in
set_option maxRecDepth 100000 in
theorem nb_.calls (k : Nat) (a0_0 : Int) (A0_1 : Option Addr) (c0_1 : Nat) (l0_1 : List (S65)) (A0_2 : Option Addr) (c0_2 : Nat) (l0_2 : List (S60)) (A0_3 : Option Addr) (c0_3 : Nat) (l0_3 : List (S58)) (r : List (S38)) (w : World) (hr0_1 : Kd.C k65 w A0_1 l0_1.length l0_1) (hc0_1 : l0_1.length ≤ c0_1) (hr0_2 : Kd.C k60 w A0_2 l0_2.length l0_2) (hc0_2 : l0_2.length ≤ c0_2) (hr0_3 : Kd.C k58 w A0_3 l0_3.length l0_3) (hc0_3 : l0_3.length ≤ c0_3) (h : nb_.f k a0_0 l0_1 l0_2 l0_3 = some r) :
  Calls Tryz.prog 9 #[.agg #[.int .i64 a0_0, .slice A0_1 l0_1.length c0_1, .slice A0_2 l0_2.length c0_2, .slice A0_3 l0_3.length c0_3]] w fun e w' => ∃ v0_ : Value, e = .returned (v0_) ∧ Kd.R k38 38 w' w.heap.size (fun _ => True) v0_ r ∧ Below w.heap.size w w' := by
 have hu31 := Tryz.underlying31
 have hu58 := Tryz.underlying58
 have hu38 := Tryz.underlying38
 have HR0_1 := ba_.mk hr0_1
 have HC0_1 := ba_.mk hc0_1
 clear hr0_1 hc0_1
 have HR0_2 := ba_.mk hr0_2
 have HC0_2 := ba_.mk hc0_2
 clear hr0_2 hc0_2
 have HR0_3 := ba_.mk hr0_3
 have HC0_3 := ba_.mk hc0_3
 clear hr0_3 hc0_3
 have HB := ba_.mk (Below.refl w.heap.size w)
 have H : (nb_.l0 k ([] : List (S38)) 0 a0_0 l0_1 l0_2 l0_3) = some r := h
 clear h
 have H' := ba_.mk H
 clear H
 go_enter Tryz.func9, Tryz.ntmps9
 go_wp2_with (first | ((with_reducible refine ld_ (N := 1) rfl ?_); refine de_ ?hg (N := 1) ?hd (cs := #[.int .i64 a0_0, .slice A0_1 l0_1.length c0_1, .slice A0_2 l0_2.length c0_2, .slice A0_3 l0_3.length c0_3]) (t := 31) ?hr ?_; (case hd => rfl); (case hg => rfl); (case hr => exact Qt); intro gb104 hg w2 hbox hb; have n0_ := ba_.mk (hb_ Qh hb); have n1_ := ba_.mk (hbox); have n2_ := ba_.mk ((by rw [hg]; exact (pb_ Qh) : w.heap.size ≤ gb104)); have n3_ := ba_.mk ((by rw [hg]; exact (pb_ Qh) : w.heap.size ≤ gb104)); clear HB; have HB := n0_; have BK104 := n1_; have GW104 := n2_; have GE104 := n3_; clear n0_ n1_ n2_ n3_; clear hb hbox hg))
 go_loopg [3, 4] k (fun kq v3 v4 w' => ∃ (x3_1 : List (S38)) (x4_1 : Int), v4 = .int .i64 x4_1 ∧ ba_ (nb_.l0 kq x3_1 x4_1 a0_0 l0_1 l0_2 l0_3 = some r) ∧ ba_ (kq ≤ k) ∧ ba_ (Kd.R k38 38 w' w.heap.size (fun _ => True) v3 x3_1) ∧ ba_ (w'.heap[gb104]? = some (.cells #[.int .i64 a0_0, (.slice A0_1 l0_1.length c0_1), (.slice A0_2 l0_2.length c0_2), (.slice A0_3 l0_3.length c0_3)] 31 (0, 0))) ∧ ba_ (Below w.heap.size w w'))
 case atStart => exact ⟨(([] : List (S38))), (0), Ql, H', ⟨Nat.le_refl _⟩, ⟨Q9⟩, ⟨by (with_reducible repeat (first | refine ia_ ?_ _ | refine ma_ ?_ | refine ha_ ?_ _)); exact BK104.out⟩, ⟨Yp⟩⟩
 case round =>
  clear H'
  try clear p2
  obtain ⟨x3_1, x4_1, rfl, HA, HK1, HO_3, BK104, HB⟩ := hrel
  cases gk with
  | zero => exact absurd HA.out (by simp [nb_.l0])
  | succ k1 =>
   have H := HA.out
   clear HA
   simp only [nb_.l0] at H
   by_cases c3 : x4_1 < (l0_3.length : Int)
   rotate_left
   ·rw [if_neg c3] at H
    have c3b0 := decide_eq_false c3
    clear c3
    obtain rfl := Option.some.inj H
    have hcz20_0 : wr.cell? ⟨gb104, 0, none⟩ = some (.int .i64 a0_0) := (la_ BK104.out 0).trans rfl
    have hcz20_1 : wr.cell? ⟨gb104, 1, none⟩ = some (.slice A0_1 l0_1.length c0_1) := (la_ BK104.out 1).trans rfl
    have hcz20_2 : wr.cell? ⟨gb104, 2, none⟩ = some (.slice A0_2 l0_2.length c0_2) := (la_ BK104.out 2).trans rfl
    have hcz20_3 : wr.cell? ⟨gb104, 3, none⟩ = some (.slice A0_3 l0_3.length c0_3) := (la_ BK104.out 3).trans rfl
    have hfz20_0 := ja_ BK104.out 0
    have hfz20_1 := ja_ BK104.out 1
    have hfz20_2 := ja_ BK104.out 2
    have hfz20_3 := ja_ BK104.out 3
    go_wp2
    go_ret
    exact ⟨_, Qu, Y6, Yp⟩
   rw [if_pos c3] at H
   have c3b0 := decide_eq_true c3
   clear c3
   by_cases c4 : 0 ≤ x4_1
   rotate_left
   ·rw [if_neg c4] at H
    exact absurd H Qj
   rw [if_pos c4] at H
   have c4b0 := decide_eq_true c4
   clear c4
   have H' := ba_.mk H
   clear H
   have hcz5_0 : wr.cell? ⟨gb104, 0, none⟩ = some (.int .i64 a0_0) := (la_ BK104.out 0).trans rfl
   have hcz5_1 : wr.cell? ⟨gb104, 1, none⟩ = some (.slice A0_1 l0_1.length c0_1) := (la_ BK104.out 1).trans rfl
   have hcz5_2 : wr.cell? ⟨gb104, 2, none⟩ = some (.slice A0_2 l0_2.length c0_2) := (la_ BK104.out 2).trans rfl
   have hcz5_3 : wr.cell? ⟨gb104, 3, none⟩ = some (.slice A0_3 l0_3.length c0_3) := (la_ BK104.out 3).trans rfl
   have hfz5_0 := ja_ BK104.out 0
   have hfz5_1 := ja_ BK104.out 1
   have hfz5_2 := ja_ BK104.out 2
   have hfz5_3 := ja_ BK104.out 3
   have p105 : 0 ≤ (x4_1 : Int) := of_decide_eq_true Qi
   have q105 : x4_1 < (l0_3.length : Int) := of_decide_eq_true Qi
   obtain ⟨ad105, e105, hx105_0, hx105_1, hx105_2⟩ := at_T58 HR0_3.out x4_1 p105 q105
   cases e105
   replace hx105_0 := (HB.out.cell (World.block_lt_of_cell? w _ hx105_0)).trans hx105_0
   replace hx105_1 := (HB.out.cell (World.block_lt_of_cell? w _ hx105_1)).trans hx105_1
   replace hx105_2 := (HB.out.cell (World.block_lt_of_cell? w _ hx105_2)).trans hx105_2
   replace p105 := eq_true p105
   replace q105 := eq_true q105
   go_wp2_with (first | ((with_reducible refine ld_ (N := 5) rfl ?_); refine de_ ?hg (N := 5) ?hd (cs := #[.int .i64 0, .int .i64 0, .int .i64 0]) (t := 58) ?hr ?_; (case hd => rfl); (case hg => rfl); (case hr => exact Qt); intro gb106 hg w6 hbox hb; have n0_ := ba_.mk (Kd.be_ (Qk HO_3.out) hb); have n1_ := ba_.mk (pc_ (g := gb104) (o := .cells #[.int .i64 a0_0, .slice A0_1 l0_1.length c0_1, .slice A0_2 l0_2.length c0_2, .slice (some ad105) l0_3.length c0_3] 31 (0, 0)) (Qf BK104.out) hb); have n2_ := ba_.mk (hb_ Yp hb); have n3_ := ba_.mk (hbox); have n4_ := ba_.mk ((by rw [hg]; exact (pb_ Yp) : w.heap.size ≤ gb106)); have n5_ := ba_.mk ((by rw [hg]; exact (pb_ Yp) : w.heap.size ≤ gb106)); have n6_ := ba_.mk ((by rw [hg]; exact Nat.ne_of_lt (bg_ (g := gb104) (o := .cells #[.int .i64 a0_0, .slice A0_1 l0_1.length c0_1, .slice A0_2 l0_2.length c0_2, .slice (some ad105) l0_3.length c0_3] 31 (0, 0)) (Qf BK104.out)) : gb104 ≠ gb106)); have n7_ := ba_.mk ((by rw [hg]; exact Nat.ne_of_gt (bg_ (g := gb104) (o := .cells #[.int .i64 a0_0, .slice A0_1 l0_1.length c0_1, .slice A0_2 l0_2.length c0_2, .slice (some ad105) l0_3.length c0_3] 31 (0, 0)) (Qf BK104.out)) : gb106 ≠ gb104)); clear HO_3; clear BK104; clear HB; have HO_3 := n0_; have BK104 := n1_; have HB := n2_; have BK106 := n3_; have GW106 := n4_; have GE106 := n5_; have NB104_106 := n6_; have NB106_104 := n7_; clear n0_ n1_ n2_ n3_ n4_ n5_ n6_ n7_; clear hb hbox hg; have hnb7 := NB106_104.out; have hnc7 := NB104_106.out; have hcz8_0 : w6.cell? ⟨gb106, 0, none⟩ = some (.int .i64 0) := (la_ BK106.out 0).trans rfl; have hcz8_1 : w6.cell? ⟨gb106, 1, none⟩ = some (.int .i64 0) := (la_ BK106.out 1).trans rfl; have hcz8_2 : w6.cell? ⟨gb106, 2, none⟩ = some (.int .i64 0) := (la_ BK106.out 2).trans rfl; have hfz8_0 := ja_ BK106.out 0; have hfz8_1 := ja_ BK106.out 1; have hfz8_2 := ja_ BK106.out 2))
   go_loopg [3, 6] k1 (fun kq v3 v6 w' => ∃ (x3_2 : List (S38)) (x6_2 : Int), v6 = .int .i64 x6_2 ∧ ba_ (nb_.l1 kq x3_2 x4_1 x6_2 a0_0 l0_1 l0_2 l0_3 ((me_ l0_3 x4_1).f0) ((me_ l0_3 x4_1).f1) ((me_ l0_3 x4_1).f2) = some r) ∧ ba_ (kq ≤ k1) ∧ ba_ (Kd.R k38 38 w' w.heap.size (fun _ => True) v3 x3_2) ∧ ba_ (w'.heap[gb104]? = some (.cells #[.int .i64 a0_0, (.slice A0_1 l0_1.length c0_1), (.slice A0_2 l0_2.length c0_2), (.slice (some ad105) l0_3.length c0_3)] 31 (0, 0))) ∧ ba_ (w'.heap[gb106]? = some (.cells #[.int .i64 ((me_ l0_3 x4_1).f0), .int .i64 ((me_ l0_3 x4_1).f1), .int .i64 ((me_ l0_3 x4_1).f2)] 58 (0, 0))) ∧ ba_ (Below w.heap.size w w'))
   case atStart => exact ⟨(x3_1), (0), Ql, H', ⟨Nat.le_refl _⟩, ⟨by (with_reducible repeat (first | apply Kd.bb_ | apply Kd.cb_ | apply Kd.sb_)); exact Kd.fd_ (Kd.zf_ (p := ⟨gb106, 2, none⟩) (Kd.zf_ (p := ⟨gb106, 1, none⟩) (Kd.zf_ (p := ⟨gb106, 0, none⟩) (Kd.xe_ HO_3.out BK106.out Qc) (fun _ hk => hk.2) (.int .i64 ((me_ l0_3 x4_1).f0))) (fun _ hk => hk.2) (.int .i64 ((me_ l0_3 x4_1).f1))) (fun _ hk => hk.2) (.int .i64 ((me_ l0_3 x4_1).f2))) (fun _ hk => trivial)⟩, ⟨by (with_reducible repeat (first | refine ia_ ?_ _ | refine ma_ ?_ | refine ha_ ?_ _)); refine ie_ ?_ NB104_106.out _; (with_reducible repeat (first | refine ia_ ?_ _ | refine ma_ ?_ | refine ha_ ?_ _)); refine ie_ ?_ NB104_106.out _; (with_reducible repeat (first | refine ia_ ?_ _ | refine ma_ ?_ | refine ha_ ?_ _)); refine ie_ ?_ NB104_106.out _; (with_reducible repeat (first | refine ia_ ?_ _ | refine ma_ ?_ | refine ha_ ?_ _)); exact BK104.out⟩, ⟨by (with_reducible repeat (first | refine ia_ ?_ _ | refine ma_ ?_ | refine ha_ ?_ _)); refine sc_ (cs := #[.int .i64 ((me_ l0_3 x4_1).f0), .int .i64 ((me_ l0_3 x4_1).f1), .int .i64 0]) ?_ 2 _ rfl; (with_reducible repeat (first | refine ia_ ?_ _ | refine ma_ ?_ | refine ha_ ?_ _)); refine sc_ (cs := #[.int .i64 ((me_ l0_3 x4_1).f0), .int .i64 0, .int .i64 0]) ?_ 1 _ rfl; (with_reducible repeat (first | refine ia_ ?_ _ | refine ma_ ?_ | refine ha_ ?_ _)); refine sc_ (cs := #[.int .i64 0, .int .i64 0, .int .i64 0]) ?_ 0 _ rfl; (with_reducible repeat (first | refine ia_ ?_ _ | refine ma_ ?_ | refine ha_ ?_ _)); exact BK106.out⟩, ⟨Yq⟩⟩
   case round =>
    clear H'
    try clear p1
    try clear q1
    try clear hx1
    try clear p2
    try clear c3
    try clear c3b0
    try clear c4
    try clear c4b0
    try clear c7
    try clear hcz5_0
    try clear hcz5_1
    try clear hcz5_2
    try clear hcz5_3
    try clear hcz8_0
    try clear hcz8_1
    try clear hcz8_2
    try clear hfz5_0
    try clear hfz5_1
    try clear hfz5_2
    try clear hfz5_3
    try clear hfz8_0
    try clear hfz8_1
    try clear hfz8_2
    try clear hx105_0
    try clear hx105_1
    try clear hx105_2
    try clear p105
    try clear p2
    try clear q105
    obtain ⟨x3_2, x6_2, rfl, HA, HK2, HO_3, BK104, BK106, HB⟩ := hrel
    cases gk with
    | zero => exact absurd HA.out (by simp [nb_.l1])
    | succ k2 =>
     have H := HA.out
     clear HA
     simp only [nb_.l1] at H
     obtain ⟨c9, H⟩ := Qq H
     have c9b0 := decide_eq_true c9
     clear c9
     obtain ⟨c10, H⟩ := Qq H
     have c10b0 := decide_eq_true c10
     clear c10
     by_cases c11 : x6_2 < (((cm_ l0_2 ((me_ l0_3 x4_1).f2)).f0).length : Int)
     rotate_left
     ·rw [if_neg c11] at H
      have c11b0 := decide_eq_false c11
      clear c11
      have H' := ba_.mk H
      clear H
      have hnb17 := NB104_106.out
      have hnc17 := NB106_104.out
      have hcz18_0 : wr.cell? ⟨gb104, 0, none⟩ = some (.int .i64 a0_0) := (la_ BK104.out 0).trans rfl
      have hcz18_1 : wr.cell? ⟨gb104, 1, none⟩ = some (.slice A0_1 l0_1.length c0_1) := (la_ BK104.out 1).trans rfl
      have hcz18_2 : wr.cell? ⟨gb104, 2, none⟩ = some (.slice A0_2 l0_2.length c0_2) := (la_ BK104.out 2).trans rfl
      have hcz18_3 : wr.cell? ⟨gb104, 3, none⟩ = some (.slice (some ad105) l0_3.length c0_3) := (la_ BK104.out 3).trans rfl
      have hfz18_0 := ja_ BK104.out 0
      have hfz18_1 := ja_ BK104.out 1
      have hfz18_2 := ja_ BK104.out 2
      have hfz18_3 := ja_ BK104.out 3
      have hcz19_0 : wr.cell? ⟨gb106, 0, none⟩ = some (.int .i64 ((me_ l0_3 x4_1).f0)) := (la_ BK106.out 0).trans rfl
      have hcz19_1 : wr.cell? ⟨gb106, 1, none⟩ = some (.int .i64 ((me_ l0_3 x4_1).f1)) := (la_ BK106.out 1).trans rfl
      have hcz19_2 : wr.cell? ⟨gb106, 2, none⟩ = some (.int .i64 ((me_ l0_3 x4_1).f2)) := (la_ BK106.out 2).trans rfl
      have hfz19_0 := ja_ BK106.out 0
      have hfz19_1 := ja_ BK106.out 1
      have hfz19_2 := ja_ BK106.out 2
      have p107 : 0 ≤ (((me_ l0_3 x4_1).f2) : Int) := of_decide_eq_true Qi
      have q107 : ((me_ l0_3 x4_1).f2) < (l0_2.length : Int) := of_decide_eq_true Qi
      obtain ⟨ad107, A107_0, c107_0, e107, hx107_0, hl107_0, hi107_0⟩ := yh1_ HR0_2.out ((me_ l0_3 x4_1).f2) p107 q107
      cases e107
      replace hx107_0 := (HB.out.cell (World.block_lt_of_cell? w _ hx107_0)).trans hx107_0
      have HR107_0 := ba_.mk hi107_0
      have HC107_0 := ba_.mk hl107_0
      clear hi107_0 hl107_0
      replace p107 := eq_true p107
      replace q107 := eq_true q107
      go_wp2
      go_roundg k2
      case measure => exact Q7
      case rel => exact ⟨(x3_2), (wrap64 (x4_1 + 1)), Ql, H', ⟨Q8⟩, ⟨Y6⟩, ⟨by (with_reducible repeat (first | refine ia_ ?_ _ | refine ma_ ?_ | refine ha_ ?_ _)); exact BK104.out⟩, ⟨Yq⟩⟩
     rw [if_pos c11] at H
     have c11b0 := decide_eq_true c11
     clear c11
     obtain ⟨c12, H⟩ := Qq H
     have LMc12 := ba_.mk c12
     clear c12
     obtain ⟨y108, hy108⟩ : ∃ y_ : List (S38), y_ = (x3_2 ++ [(⟨a0_0, ((me_ l0_3 x4_1).f0), x6_2, ((me_ l0_3 x4_1).f2)⟩ : S38)]) := ⟨_, rfl⟩
     replace H : (nb_.l1 k2 y108 x4_1 (wrap64 (x6_2 + 1)) a0_0 l0_1 l0_2 l0_3 ((me_ l0_3 x4_1).f0) ((me_ l0_3 x4_1).f1) ((me_ l0_3 x4_1).f2)) = some r := by first | (rw [hy108]; with_reducible exact H) | (have H2_ := (Option.bind_some _ _).symm.trans H; rw [hy108]; with_reducible exact H2_) | (have H2_ := (Option.bind_some _ _).symm.trans H; with_reducible exact H2_) | with_reducible exact H | (rw [hy108]; exact H) | exact H
     have Ny108 := ba_.mk hy108
     clear hy108
     have H' := ba_.mk H
     clear H
     have hnb13 := NB104_106.out
     have hnc13 := NB106_104.out
     have hcz14_0 : wr.cell? ⟨gb104, 0, none⟩ = some (.int .i64 a0_0) := (la_ BK104.out 0).trans rfl
     have hcz14_1 : wr.cell? ⟨gb104, 1, none⟩ = some (.slice A0_1 l0_1.length c0_1) := (la_ BK104.out 1).trans rfl
     have hcz14_2 : wr.cell? ⟨gb104, 2, none⟩ = some (.slice A0_2 l0_2.length c0_2) := (la_ BK104.out 2).trans rfl
     have hcz14_3 : wr.cell? ⟨gb104, 3, none⟩ = some (.slice (some ad105) l0_3.length c0_3) := (la_ BK104.out 3).trans rfl
     have hfz14_0 := ja_ BK104.out 0
     have hfz14_1 := ja_ BK104.out 1
     have hfz14_2 := ja_ BK104.out 2
     have hfz14_3 := ja_ BK104.out 3
     have hcz15_0 : wr.cell? ⟨gb106, 0, none⟩ = some (.int .i64 ((me_ l0_3 x4_1).f0)) := (la_ BK106.out 0).trans rfl
     have hcz15_1 : wr.cell? ⟨gb106, 1, none⟩ = some (.int .i64 ((me_ l0_3 x4_1).f1)) := (la_ BK106.out 1).trans rfl
     have hcz15_2 : wr.cell? ⟨gb106, 2, none⟩ = some (.int .i64 ((me_ l0_3 x4_1).f2)) := (la_ BK106.out 2).trans rfl
     have hfz15_0 := ja_ BK106.out 0
     have hfz15_1 := ja_ BK106.out 1
     have hfz15_2 := ja_ BK106.out 2
     have p107 : 0 ≤ (((me_ l0_3 x4_1).f2) : Int) := of_decide_eq_true Qi
     have q107 : ((me_ l0_3 x4_1).f2) < (l0_2.length : Int) := of_decide_eq_true Qi
     obtain ⟨ad107, A107_0, c107_0, e107, hx107_0, hl107_0, hi107_0⟩ := yh1_ HR0_2.out ((me_ l0_3 x4_1).f2) p107 q107
     cases e107
     replace hx107_0 := (HB.out.cell (World.block_lt_of_cell? w _ hx107_0)).trans hx107_0
     have HR107_0 := ba_.mk hi107_0
     have HC107_0 := ba_.mk hl107_0
     clear hi107_0 hl107_0
     replace p107 := eq_true p107
     replace q107 := eq_true q107
     go_wp2_with (first | ((with_reducible refine md_ (b := .append) (xs := #[.tmp 31, .tmp 40]) rfl ?_); at_builtin; refine Kd.yf_ k38 (w0 := w) w.heap.size rfl (.tmp 31) (.tmp 40) 25 38 (.agg #[(.int .i64 0), (.int .i64 0), (.int .i64 0), (.int .i64 0)]) 32 rfl Tryz.underlying25 info38 rfl Qc Qa u3 x3_2 (⟨a0_0, ((me_ l0_3 x4_1).f0), x6_2, ((me_ l0_3 x4_1).f2)⟩ : S38) [.int .i64 a0_0, .int .i64 ((me_ l0_3 x4_1).f0), .int .i64 x6_2, .int .i64 ((me_ l0_3 x4_1).f2)] (fun _ => True) (fun _ => False) rfl rfl ?aP (fun _ hk => hk.elim) ?aF ?aO ?aB ?aS ?aL ?_; (case aP => exact xj1_ _ _ _ (⟨a0_0, ((me_ l0_3 x4_1).f0), x6_2, ((me_ l0_3 x4_1).f2)⟩ : S38)); (case aB => exact Yq); (case aF => exact Xn); (case aO => exact (Qk HO_3.out)); (case aS => exact (pb_ Yq)); (case aL => have := LMc12.out; omega); intro v109 w16 ho hb hg hat; rw [← Ny108.out] at ho; have n0_ := ba_.mk (ce_ (g := gb104) (o := .cells #[.int .i64 a0_0, .slice A0_1 l0_1.length c0_1, .slice (some ad107) l0_2.length c0_2, .slice (some ad105) l0_3.length c0_3] 31 (0, 0)) (Qf BK104.out) hg (Kd.R_ne HO_3.out BK104.out Qc)); have n1_ := ba_.mk (ce_ (g := gb106) (o := .cells #[.int .i64 ((me_ l0_3 x4_1).f0), .int .i64 ((me_ l0_3 x4_1).f1), .int .i64 ((me_ l0_3 x4_1).f2)] 58 (0, 0)) (Qf BK106.out) hg (Kd.R_ne HO_3.out BK106.out Qc)); have n2_ := ba_.mk (hb); have n3_ := ba_.mk (ho); clear BK104; clear BK106; clear HB; clear HO_3; have BK104 := n0_; have BK106 := n1_; have HB := n2_; have HO110 := n3_; clear n0_ n1_ n2_ n3_; clear ho hb hg hat))
     go_roundg k2
     case measure => exact Q7
     case rel => exact ⟨(y108), (wrap64 (x6_2 + 1)), Ql, H', ⟨Q8⟩, ⟨by (with_reducible repeat (first | apply Kd.bb_ | apply Kd.cb_ | apply Kd.sb_)); exact HO110.out⟩, ⟨by (with_reducible repeat (first | refine ia_ ?_ _ | refine ma_ ?_ | refine ha_ ?_ _)); exact BK104.out⟩, ⟨by (with_reducible repeat (first | refine ia_ ?_ _ | refine ma_ ?_ | refine ha_ ?_ _)); exact BK106.out⟩, ⟨Yq⟩⟩
def pe_.f (a0 : Int) (a1 : Int) : Option (Int) := if a1 < 1 then (some 0) else (if a1 = 0 then (none) else (if (Int.tmod a0 a1) < 0 then (some (wrap64 ((Int.tmod a0 a1) + a1))) else (some (Int.tmod a0 a1))))
set_option maxHeartbeats 8000000 in
set_option maxRecDepth 100000 in
theorem pe_.calls (a0 : Int) (a1 : Int) (r : Int) (w : World) (h : pe_.f a0 a1 = some r) :
  Calls Tryz.prog 61 #[.int .i64 a0, .int .i64 a1] w fun e w' => e = .returned (.int .i64 r) ∧ vb_ w w' := by
 have H : (if a1 < 1 then (some 0) else (if a1 = 0 then (none) else (if (Int.tmod a0 a1) < 0 then (some (wrap64 ((Int.tmod a0 a1) + a1))) else (some (Int.tmod a0 a1))))) = some r := h
 clear h
 by_cases c3 : a1 < 1
 ·rw [if_pos c3] at H
  have c3b0 := decide_eq_true c3
  clear c3
  obtain rfl := Option.some.inj H
  go_enter Tryz.func61, Tryz.ntmps61
  go_wp2
  go_ret
  exact ⟨Ql, Qx⟩
 rw [if_neg c3] at H
 have c3b0 := decide_eq_false c3
 clear c3
 by_cases c4 : a1 = 0
 ·rw [if_pos c4] at H
  exact absurd H Qj
 rw [if_neg c4] at H
 have c4b0 : (a1 == 0) = false := beq_eq_false_iff_ne.mpr c4
 have c4b1 : (a1 != 0) = true := bne_iff_ne.mpr c4
 by_cases c5 : (Int.tmod a0 a1) < 0
 ·rw [if_pos c5] at H
  have c5b0 := decide_eq_true c5
  clear c5
  obtain rfl := Option.some.inj H
  go_enter Tryz.func61, Tryz.ntmps61
  go_wp2
  go_ret
  exact ⟨Ql, Qx⟩
 rw [if_neg c5] at H
 have c5b0 := decide_eq_false c5
 clear c5
 obtain rfl := Option.some.inj H
 go_enter Tryz.func61, Tryz.ntmps61
 go_wp2
 go_ret
 exact ⟨Ql, Qx⟩
def je_.f (s0_0 : List Int) (s0_1 : Int) : Option (Int × Int) := if s0_1 ≥ (s0_0.length : Int) then (some (0, s0_1)) else (if 0 ≤ (wrap64 ((wrap64 (s0_1 + 1)) - 1)) then (if (wrap64 ((wrap64 (s0_1 + 1)) - 1)) < (s0_0.length : Int) then (some (rd s0_0 (wrap64 ((wrap64 (s0_1 + 1)) - 1)), wrap64 (s0_1 + 1))) else (none)) else (none))
set_option maxHeartbeats 8000000 in
set_option maxRecDepth 100000 in
theorem je_.calls (g : Nat) (s0_0 : List Int) (s0_1 : Int) (r1 : Int) (r2 : Int) (w0 w : World) (hI : ga_ w0 w g s0_0 s0_1) (hB : Below w0.heap.size w0 w) (h : je_.f s0_0 s0_1 = some (r1, r2)) :
  Calls Tryz.prog 62 #[.pointer (some ⟨g, 0, none⟩)] w fun e w' => e = .returned (.int .i64 r1) ∧ ga_ w0 w' g s0_0 r2 ∧ Below w0.heap.size w0 w' ∧ ra_ w w' g none := by
 have HI0 := ba_.mk hI
 have HK := ba_.mk (ra_.refl w g none)
 have HL := ba_.mk hB.size
 clear hI
 have HW0 := ba_.mk hB.size
 have HB := ba_.mk hB
 clear hB
 have H : (if s0_1 ≥ (s0_0.length : Int) then (some (0, s0_1)) else (if 0 ≤ (wrap64 ((wrap64 (s0_1 + 1)) - 1)) then (if (wrap64 ((wrap64 (s0_1 + 1)) - 1)) < (s0_0.length : Int) then (some (rd s0_0 (wrap64 ((wrap64 (s0_1 + 1)) - 1)), wrap64 (s0_1 + 1))) else (none)) else (none))) = some (r1, r2) := h
 clear h
 by_cases c2 : s0_1 ≥ (s0_0.length : Int)
 ·rw [if_pos c2] at H
  have c2b0 : decide ((s0_0.length : Int) ≤ s0_1) = true := decide_eq_true c2
  clear c2
  simp only [Option.some.injEq, Prod.mk.injEq] at H
  obtain ⟨rfl, rfl⟩ := H
  obtain ⟨ASz3_0, cSz3_0, HGz3, hgz3, HSz3_0⟩ := HI0.out
  have hcz3_0 := nu_ HGz3
  have hcz3_1 := ou_ HGz3
  have hfz3_1 := ja_ HGz3 1
  clear HGz3 hgz3
  go_enter Tryz.func62, Tryz.ntmps62
  go_wp2
  repeat (go_quiet (fail); try go_wp2)
  go_ret
  exact ⟨Qu, Q2, Q3, Qw⟩
 rw [if_neg c2] at H
 have c2b0 : decide ((s0_0.length : Int) ≤ s0_1) = false := decide_eq_false c2
 clear c2
 obtain ⟨ji4, hji4⟩ : ∃ j_ : Int, (wrap64 ((wrap64 (s0_1 + 1)) - 1)) = j_ := ⟨_, rfl⟩
 replace H : (if 0 ≤ (ji4) then (if (ji4) < (s0_0.length : Int) then (some (rd s0_0 (ji4), wrap64 (s0_1 + 1))) else (none)) else (none)) = some (r1, r2) := by first | (rw [hji4] at H; exact H) | (simp only [hji4] at H ⊢; exact H)
 have hji4w : (IntKind.i64.wrap ((wrap64 (s0_1 + 1)) - 1)) = ji4 := (yb_ _).trans hji4
 obtain ⟨c5, H⟩ := Qq H
 have c5b0 := decide_eq_true c5
 clear c5
 obtain ⟨c6, H⟩ := Qq H
 have c6b0 := decide_eq_true c6
 clear c6
 simp only [Option.some.injEq, Prod.mk.injEq] at H
 obtain ⟨rfl, rfl⟩ := H
 obtain ⟨ASz7_0, cSz7_0, HGz7, hgz7, HSz7_0⟩ := HI0.out
 have hcz7_0 := nu_ HGz7
 have hcz7_1 := ou_ HGz7
 have hfz7_1 := ja_ HGz7 1
 clear HGz7 hgz7
 have p111 : 0 ≤ ((ji4) : Int) := of_decide_eq_true Qi
 have q111 : (ji4) < (s0_0.length : Int) := of_decide_eq_true Qi
 obtain ⟨ad111, e111, hx111_0⟩ := Kd.ee_ HSz7_0 (ji4) p111 q111
 cases e111
 have hn111_0 : ad111.block ≠ g := Nat.ne_of_lt (Nat.lt_of_lt_of_le (by have := World.block_lt_of_cell? _ _ hx111_0; first | rwa [za_] at this | exact this) (ga_.ge HI0.out))
 replace hx111_0 := kj_ HB.out hx111_0
 replace hx111_0 := (cell_far (p := ⟨g, 1, none⟩) (by first | (rw [za_]; exact hn111_0) | (show (Addr.add _ _).block ≠ _; rw [za_]; exact hn111_0) | exact hn111_0) (.int .i64 (wrap64 (s0_1 + 1)))).trans hx111_0
 (try have hy111_0 := fun (n_ : Nat) => (show (((w.drewN n_).setCell ⟨g, 1, none⟩ (.int .i64 (wrap64 (s0_1 + 1))))).cell? _ = some _ from hx111_0))
 clear hn111_0
 replace p111 := eq_true p111
 replace q111 := eq_true q111
 go_enter Tryz.func62, Tryz.ntmps62
 go_wp2
 repeat (go_quiet (fail); try go_wp2)
 go_ret
 exact ⟨by first | rfl | (simp [ib_, jb_] <;> rfl) | (simp only [← hji4]; first | rfl | (simp [ib_, jb_] <;> rfl)) | (simp [*, ib_, jb_] <;> rfl), Q2, Q3, Qw⟩
def oa_.f (s0_0 : List Int) (s0_1 : Int) (a1 : Int) : Option (Int × Int) := (je_.f s0_0 s0_1).bind fun bt112 => ((pe_.f bt112.1 a1).bind fun t114 => (some (t114, bt112.2)))
set_option maxHeartbeats 8000000 in
set_option maxRecDepth 100000 in
theorem oa_.calls (g : Nat) (s0_0 : List Int) (s0_1 : Int) (a1 : Int) (r1 : Int) (r2 : Int) (w0 w : World) (hI : ga_ w0 w g s0_0 s0_1) (hB : Below w0.heap.size w0 w) (h : oa_.f s0_0 s0_1 a1 = some (r1, r2)) :
  Calls Tryz.prog 30 #[.pointer (some ⟨g, 0, none⟩), .int .i64 a1] w fun e w' => e = .returned (.int .i64 r1) ∧ ga_ w0 w' g s0_0 r2 ∧ Below w0.heap.size w0 w' ∧ ra_ w w' g none := by
 have HI0 := ba_.mk hI
 have HK := ba_.mk (ra_.refl w g none)
 have HL := ba_.mk hB.size
 clear hI
 have HW0 := ba_.mk hB.size
 have HB := ba_.mk hB
 clear hB
 have H : ((je_.f s0_0 s0_1).bind fun bt112 => ((pe_.f bt112.1 a1).bind fun t114 => (some (t114, bt112.2)))) = some (r1, r2) := h
 clear h
 obtain ⟨⟨t112, t113⟩, A3, H⟩ := Qo H
 try dsimp only at H
 obtain ⟨t114, A4, H⟩ := Qo H
 try dsimp only at H
 simp only [Option.some.injEq, Prod.mk.injEq] at H
 obtain ⟨rfl, rfl⟩ := H
 go_enter Tryz.func30, Tryz.ntmps30
 go_wp2_with (first | ((with_reducible refine va_ (f := 62) rfl ?_); refine lc_ (some 6) rfl rfl Tryz.func62 Qb rfl #[.pointer (some ⟨g, 0, none⟩)] rfl Qm ?_; (with_reducible refine (je_.calls g s0_0 s0_1 t112 t113 w0 _ ?side1 ?side2 A3.out).mono ?_); (case side1 => exact Xd); (case side2 => exact Xe); rintro e w5 ⟨rfl, hi, hb, hk⟩; refine ⟨_, rfl, ?_⟩; have n0_ := ba_.mk (ra_.trans Qw hk (.inl rfl)); have n1_ := ba_.mk (hb); have n2_ := ba_.mk (hi); clear HK; clear HB; clear HI0; have HK := n0_; have HB := n1_; have HI0 := n2_; clear n0_ n1_ n2_; (try clear hb); (try clear hb2); (try clear hk); (try clear hi)) | ((with_reducible refine va_ (f := 61) rfl ?_); refine lc_ (some 8) rfl rfl Tryz.func61 Qb rfl #[.int .i64 t112, .int .i64 a1] rfl Qm ?_; (with_reducible refine (pe_.calls t112 a1 t114 _ A4.out).mono ?_); rintro e w' ⟨rfl, ⟨nd, rfl⟩⟩; refine ⟨_, rfl, ?_⟩))
 go_ret
 exact ⟨Qu, Q2, Q3, Qw⟩
def ob_.f (s0_0 : List Int) (s0_1 : Int) (a1 : Int) (a2 : Int) : Option (Int × Int) := (oa_.f s0_0 s0_1 (wrap64 ((wrap64 (a2 - a1)) + 1))).bind fun bt115 => (some (wrap64 (a1 + bt115.1), bt115.2))
set_option maxHeartbeats 8000000 in
set_option maxRecDepth 100000 in
theorem ob_.calls (g : Nat) (s0_0 : List Int) (s0_1 : Int) (a1 : Int) (a2 : Int) (r1 : Int) (r2 : Int) (w0 w : World) (hI : ga_ w0 w g s0_0 s0_1) (hB : Below w0.heap.size w0 w) (h : ob_.f s0_0 s0_1 a1 a2 = some (r1, r2)) :
  Calls Tryz.prog 31 #[.pointer (some ⟨g, 0, none⟩), .int .i64 a1, .int .i64 a2] w fun e w' => e = .returned (.int .i64 r1) ∧ ga_ w0 w' g s0_0 r2 ∧ Below w0.heap.size w0 w' ∧ ra_ w w' g none := by
 have HI0 := ba_.mk hI
 have HK := ba_.mk (ra_.refl w g none)
 have HL := ba_.mk hB.size
 clear hI
 have HW0 := ba_.mk hB.size
 have HB := ba_.mk hB
 clear hB
 have H : ((oa_.f s0_0 s0_1 (wrap64 ((wrap64 (a2 - a1)) + 1))).bind fun bt115 => (some (wrap64 (a1 + bt115.1), bt115.2))) = some (r1, r2) := h
 clear h
 obtain ⟨⟨t115, t116⟩, A4, H⟩ := Qo H
 try dsimp only at H
 simp only [Option.some.injEq, Prod.mk.injEq] at H
 obtain ⟨rfl, rfl⟩ := H
 go_enter Tryz.func31, Tryz.ntmps31
 go_wp2_with (first | ((with_reducible refine va_ (f := 30) rfl ?_); refine lc_ (some 13) rfl rfl Tryz.func30 Qb rfl #[.pointer (some ⟨g, 0, none⟩), .int .i64 (wrap64 ((wrap64 (a2 - a1)) + 1))] rfl Qm ?_; (with_reducible refine (oa_.calls g s0_0 s0_1 (wrap64 ((wrap64 (a2 - a1)) + 1)) t115 t116 w0 _ ?side1 ?side2 A4.out).mono ?_); (case side1 => exact Xd); (case side2 => exact Xe); rintro e w5 ⟨rfl, hi, hb, hk⟩; refine ⟨_, rfl, ?_⟩; have n0_ := ba_.mk (ra_.trans Qw hk (.inl rfl)); have n1_ := ba_.mk (hb); have n2_ := ba_.mk (hi); clear HK; clear HB; clear HI0; have HK := n0_; have HB := n1_; have HI0 := n2_; clear n0_ n1_ n2_; (try clear hb); (try clear hb2); (try clear hk); (try clear hi)))
 go_ret
 exact ⟨Qu, Q2, Q3, Qw⟩
def oe_.f (s0_0 : List Int) (s0_1 : Int) (a1 : Int) : Option (Bool × Int) := (oa_.f s0_0 s0_1 a1).bind fun bt117 => (some ((bt117.1 == (wrap64 (a1 - 1))), bt117.2))
set_option maxHeartbeats 8000000 in
set_option maxRecDepth 100000 in
theorem oe_.calls (g : Nat) (s0_0 : List Int) (s0_1 : Int) (a1 : Int) (r1 : Bool) (r2 : Int) (w0 w : World) (hI : ga_ w0 w g s0_0 s0_1) (hB : Below w0.heap.size w0 w) (h : oe_.f s0_0 s0_1 a1 = some (r1, r2)) :
  Calls Tryz.prog 34 #[.pointer (some ⟨g, 0, none⟩), .int .i64 a1] w fun e w' => e = .returned (.bool r1) ∧ ga_ w0 w' g s0_0 r2 ∧ Below w0.heap.size w0 w' ∧ ra_ w w' g none := by
 have HI0 := ba_.mk hI
 have HK := ba_.mk (ra_.refl w g none)
 have HL := ba_.mk hB.size
 clear hI
 have HW0 := ba_.mk hB.size
 have HB := ba_.mk hB
 clear hB
 have H : ((oa_.f s0_0 s0_1 a1).bind fun bt117 => (some ((bt117.1 == (wrap64 (a1 - 1))), bt117.2))) = some (r1, r2) := h
 clear h
 obtain ⟨⟨t117, t118⟩, A3, H⟩ := Qo H
 try dsimp only at H
 simp only [Option.some.injEq, Prod.mk.injEq] at H
 obtain ⟨rfl, rfl⟩ := H
 go_enter Tryz.func34, Tryz.ntmps34
 go_wp2_with (first | ((with_reducible refine va_ (f := 30) rfl ?_); refine lc_ (some 7) rfl rfl Tryz.func30 Qb rfl #[.pointer (some ⟨g, 0, none⟩), .int .i64 a1] rfl Qm ?_; (with_reducible refine (oa_.calls g s0_0 s0_1 a1 t117 t118 w0 _ ?side1 ?side2 A3.out).mono ?_); (case side1 => exact Xd); (case side2 => exact Xe); rintro e w4 ⟨rfl, hi, hb, hk⟩; refine ⟨_, rfl, ?_⟩; have n0_ := ba_.mk (ra_.trans Qw hk (.inl rfl)); have n1_ := ba_.mk (hb); have n2_ := ba_.mk (hi); clear HK; clear HB; clear HI0; have HK := n0_; have HB := n1_; have HI0 := n2_; clear n0_ n1_ n2_; (try clear hb); (try clear hb2); (try clear hk); (try clear hi)))
 go_ret
 exact ⟨Qu, Q2, Q3, Qw⟩
mutual
def xa_.j0 : Nat → Int → List Int → Int → Int → Int → Int → Int → Int → Int → Option (Int × Int × Int × Int × Int × Int × Int)
 | 0, _, _, _, _, _, _, _, _, _ => none
 | k + 1, x1, x1000, x1001, x135000, x135001, x135002, x135003, x135004, x135005 => if x1 > 0 then ((oe_.f x1000 x1001 x1).bind fun bt143 => (xa_.j1 k bt143.1 x1000 bt143.2 x135000 x135001 x135002 x135003 x135004 x135005)) else (xa_.j1 k false x1000 x1001 x135000 x135001 x135002 x135003 x135004 x135005)
def xa_.j1 : Nat → Bool → List Int → Int → Int → Int → Int → Int → Int → Int → Option (Int × Int × Int × Int × Int × Int × Int)
 | 0, _, _, _, _, _, _, _, _, _ => none
 | k + 1, x34, x1000, x1001, x135000, x135001, x135002, x135003, x135004, x135005 => if x34 = true then (none) else (some (x135000, x135001, x135002, x135003, x135004, x135005, x1001))
end
def xa_.f (k : Nat) (s0_0 : List Int) (s0_1 : Int) (a1 : Int) : Option (Int × Int × Int × Int × Int × Int × Int) := (ob_.f s0_0 s0_1 1 12).bind fun bt128 => ((oa_.f s0_0 bt128.2 4).bind fun bt130 => ((oa_.f s0_0 bt130.2 3).bind fun bt132 => ((oa_.f s0_0 bt132.2 3).bind fun bt135 => (if bt135.1 = 0 then ((ob_.f s0_0 bt135.2 2 5).bind fun bt137 => ((oa_.f s0_0 bt137.2 bt137.1).bind fun bt139 => ((ob_.f s0_0 bt139.2 1 3).bind fun bt141 => (xa_.j0 k a1 s0_0 bt141.2 2 bt141.1 bt130.1 bt132.1 bt137.1 bt139.1)))) else (xa_.j0 k a1 s0_0 bt135.2 1 bt128.1 bt130.1 bt132.1 0 0)))))
theorem xa_.nd_ : ∀ k, (∀ y0 y1 y2 y3 y4 y5 y6 y7 y8, LeO (xa_.j0 k y0 y1 y2 y3 y4 y5 y6 y7 y8) (xa_.j0 (k + 1) y0 y1 y2 y3 y4 y5 y6 y7 y8)) ∧ (∀ y0 y1 y2 y3 y4 y5 y6 y7 y8, LeO (xa_.j1 k y0 y1 y2 y3 y4 y5 y6 y7 y8) (xa_.j1 (k + 1) y0 y1 y2 y3 y4 y5 y6 y7 y8))
 | 0 => ⟨fun _ _ _ _ _ _ _ _ _ r h => by simp [xa_.j0] at h, fun _ _ _ _ _ _ _ _ _ r h => by simp [xa_.j1] at h⟩
 | k + 1 => by
  obtain ⟨ih0, ih1⟩ := xa_.nd_ k
  refine ⟨?_, ?_⟩
  ·intro y0 y1 y2 y3 y4 y5 y6 y7 y8
   unfold xa_.j0
   exact Qr
  intro y0 y1 y2 y3 y4 y5 y6 y7 y8
  unfold xa_.j1
  exact Qr
theorem xa_.mono : ∀ a0 a1 a2 k, LeO (xa_.f k a0 a1 a2) (xa_.f (k + 1) a0 a1 a2) := by
 intro a0 a1 a2 k
 obtain ⟨ih0, ih1⟩ := xa_.nd_ k
 unfold xa_.f
 exact Qr
set_option maxHeartbeats 8000000 in
set_option maxRecDepth 100000 in
theorem xa_.calls (k : Nat) (g : Nat) (s0_0 : List Int) (s0_1 : Int) (a1 : Int) (r1 : Int) (r2 : Int) (r3 : Int) (r4 : Int) (r5 : Int) (r6 : Int) (r7 : Int) (w0 w : World) (hI : ga_ w0 w g s0_0 s0_1) (hB : Below w0.heap.size w0 w) (h : xa_.f k s0_0 s0_1 a1 = some (r1, r2, r3, r4, r5, r6, r7)) :
  Calls Tryz.prog 63 #[.pointer (some ⟨g, 0, none⟩), .int .i64 a1] w fun e w' => e = .returned (.agg #[.int .i64 r1, .int .i64 r2, .int .i64 r3, .int .i64 r4, .int .i64 r5, .int .i64 r6]) ∧ ga_ w0 w' g s0_0 r7 ∧ Below w0.heap.size w0 w' ∧ ra_ w w' g none := by
 have hu100 := Tryz.underlying100
 have HI0 := ba_.mk hI
 have HK := ba_.mk (ra_.refl w g none)
 have HL := ba_.mk hB.size
 clear hI
 have HW0 := ba_.mk hB.size
 have HB := ba_.mk hB
 clear hB
 have H : ((ob_.f s0_0 s0_1 1 12).bind fun bt128 => ((oa_.f s0_0 bt128.2 4).bind fun bt130 => ((oa_.f s0_0 bt130.2 3).bind fun bt132 => ((oa_.f s0_0 bt132.2 3).bind fun bt135 => (if bt135.1 = 0 then ((ob_.f s0_0 bt135.2 2 5).bind fun bt137 => ((oa_.f s0_0 bt137.2 bt137.1).bind fun bt139 => ((ob_.f s0_0 bt139.2 1 3).bind fun bt141 => (xa_.j0 k a1 s0_0 bt141.2 2 bt141.1 bt130.1 bt132.1 bt137.1 bt139.1)))) else (xa_.j0 k a1 s0_0 bt135.2 1 bt128.1 bt130.1 bt132.1 0 0)))))) = some (r1, r2, r3, r4, r5, r6, r7) := h
 clear h
 obtain ⟨⟨t128, t129⟩, A3, H⟩ := Qo H
 try dsimp only at H
 obtain ⟨⟨t130, t131⟩, A4, H⟩ := Qo H
 try dsimp only at H
 obtain ⟨⟨t132, t133⟩, A5, H⟩ := Qo H
 try dsimp only at H
 obtain ⟨⟨t135, t136⟩, A6, H⟩ := Qo H
 try dsimp only at H
 have HC7 := ba_.mk H
 clear H
 go_enter Tryz.func63, Tryz.ntmps63
 go_upto_if 15 with (first | ((with_reducible refine ld_ (N := 4) rfl ?_); refine de_ ?hg (N := 4) ?hd (cs := #[.int .i64 0, .int .i64 0, .int .i64 0, .int .i64 0, .int .i64 0, .int .i64 0]) (t := 100) ?hr ?_; (case hd => rfl); (case hg => rfl); (case hr => exact Qt); intro gb127 hg w8 hbox hb; have n0_ := ba_.mk (ga_.below Q2 hb); have n1_ := ba_.mk (ra_.trans Qw (ra_.sf_ hb g none) (.inl rfl)); have n2_ := ba_.mk (hb_ Q3 hb); have n3_ := ba_.mk (hbox); have n4_ := ba_.mk ((by rw [hg]; exact (kd_ (w := w) (g := g) (row := none) Qw) : w.heap.size ≤ gb127)); have n5_ := ba_.mk ((Nat.le_trans HW0.out (by rw [hg]; exact (kd_ (w := w) (g := g) (row := none) Qw) : w.heap.size ≤ gb127) : w0.heap.size ≤ gb127)); have n6_ := ba_.mk ((by rw [hg]; exact Nat.ne_of_lt (ga_.lt (show ga_ w0 _ g s0_0 s0_1 from by repeat (first | (with_reducible first | exact HI0.out | apply ga_.alloc | apply ga_.drewN | apply ga_.drew | apply ga_.tc_) | exact HI0.out))) : g ≠ gb127)); have n7_ := ba_.mk ((by rw [hg]; exact Nat.ne_of_gt (ga_.lt (show ga_ w0 _ g s0_0 s0_1 from by repeat (first | (with_reducible first | exact HI0.out | apply ga_.alloc | apply ga_.drewN | apply ga_.drew | apply ga_.tc_) | exact HI0.out))) : gb127 ≠ g)); clear HI0; clear HK; clear HB; have HI0 := n0_; have HK := n1_; have HB := n2_; have BK127 := n3_; have GW127 := n4_; have GE127 := n5_; have NB0_127 := n6_; have NB127_0 := n7_; clear n0_ n1_ n2_ n3_ n4_ n5_ n6_ n7_; clear hb hbox hg) | ((with_reducible refine va_ (f := 31) rfl ?_); refine lc_ (some 7) rfl rfl Tryz.func31 Qb rfl #[.pointer (some ⟨g, 0, none⟩), .int .i64 1, .int .i64 12] rfl Qm ?_; (with_reducible refine (ob_.calls g s0_0 s0_1 1 12 t128 t129 w0 _ ?side1 ?side2 A3.out).mono ?_); (case side1 => repeat (first | (with_reducible first | exact HI0.out | apply ga_.alloc | apply ga_.drewN | apply ga_.drew | apply ga_.tc_ | refine ga_.far ?_ NB0_127.out _) | exact HI0.out)); (case side2 => repeat (first | (with_reducible first | exact HB.out | apply da_ | apply aa_ | apply ca_ | refine fa_ ?_ (ga_.ge HI0.out) | refine fa_ ?_ GE127.out) | exact HB.out)); rintro e w9 ⟨rfl, hi, hb, hk⟩; refine ⟨_, rfl, ?_⟩; have n0_ := ba_.mk (ra_.blk hk (g' := gb127) (o := .cells #[.int .i64 0, .int .i64 0, .int .i64 0, .int .i64 0, .int .i64 0, .int .i64 0] 100 (0, 0)) (Qf BK127.out) NB127_0.out Qj); have n1_ := ba_.mk (ra_.trans X8 hk (.inl rfl)); have n2_ := ba_.mk (hb); have n3_ := ba_.mk (hi); clear BK127; clear HK; clear HB; clear HI0; have BK127 := n0_; have HK := n1_; have HB := n2_; have HI0 := n3_; clear n0_ n1_ n2_ n3_; (try clear hb); (try clear hb2); (try clear hk); (try clear hi)) | ((with_reducible refine va_ (f := 30) rfl ?_); refine lc_ (some 9) rfl rfl Tryz.func30 Qb rfl #[.pointer (some ⟨g, 0, none⟩), .int .i64 4] rfl Qm ?_; (with_reducible refine (oa_.calls g s0_0 t129 4 t130 t131 w0 _ ?side1 ?side2 A4.out).mono ?_); (case side1 => repeat (first | (with_reducible first | exact HI0.out | apply ga_.alloc | apply ga_.drewN | apply ga_.drew | apply ga_.tc_ | refine ga_.far ?_ NB0_127.out _) | exact HI0.out)); (case side2 => repeat (first | (with_reducible first | exact HB.out | apply da_ | apply aa_ | apply ca_ | refine fa_ ?_ (ga_.ge HI0.out) | refine fa_ ?_ GE127.out) | exact HB.out)); rintro e w10 ⟨rfl, hi, hb, hk⟩; refine ⟨_, rfl, ?_⟩; have n0_ := ba_.mk (ra_.blk hk (g' := gb127) (o := .cells #[.int .i64 0, .int .i64 0, .int .i64 0, .int .i64 0, .int .i64 0, .int .i64 0] 100 (0, 0)) (Qf BK127.out) NB127_0.out Qj); have n1_ := ba_.mk (ra_.trans X8 hk (.inl rfl)); have n2_ := ba_.mk (hb); have n3_ := ba_.mk (hi); clear BK127; clear HK; clear HB; clear HI0; have BK127 := n0_; have HK := n1_; have HB := n2_; have HI0 := n3_; clear n0_ n1_ n2_ n3_; (try clear hb); (try clear hb2); (try clear hk); (try clear hi)) | ((with_reducible refine va_ (f := 30) rfl ?_); refine lc_ (some 11) rfl rfl Tryz.func30 Qb rfl #[.pointer (some ⟨g, 0, none⟩), .int .i64 3] rfl Qm ?_; (with_reducible refine (oa_.calls g s0_0 t131 3 t132 t133 w0 _ ?side1 ?side2 A5.out).mono ?_); (case side1 => repeat (first | (with_reducible first | exact HI0.out | apply ga_.alloc | apply ga_.drewN | apply ga_.drew | apply ga_.tc_ | refine ga_.far ?_ NB0_127.out _) | exact HI0.out)); (case side2 => repeat (first | (with_reducible first | exact HB.out | apply da_ | apply aa_ | apply ca_ | refine fa_ ?_ (ga_.ge HI0.out) | refine fa_ ?_ GE127.out) | exact HB.out)); rintro e w11 ⟨rfl, hi, hb, hk⟩; refine ⟨_, rfl, ?_⟩; have n0_ := ba_.mk (ra_.blk hk (g' := gb127) (o := .cells #[.int .i64 0, .int .i64 0, .int .i64 0, .int .i64 0, .int .i64 0, .int .i64 0] 100 (0, 0)) (Qf BK127.out) NB127_0.out Qj); have n1_ := ba_.mk (ra_.trans X8 hk (.inl rfl)); have n2_ := ba_.mk (hb); have n3_ := ba_.mk (hi); clear BK127; clear HK; clear HB; clear HI0; have BK127 := n0_; have HK := n1_; have HB := n2_; have HI0 := n3_; clear n0_ n1_ n2_ n3_; (try clear hb); (try clear hb2); (try clear hk); (try clear hi)) | ((with_reducible refine ld_ (N := 5) rfl ?_); refine de_ ?hg (N := 5) ?hd (cs := #[.int .i64 0, .int .i64 0, .int .i64 0, .int .i64 0, .int .i64 0, .int .i64 0]) (t := 100) ?hr ?_; (case hd => rfl); (case hg => rfl); (case hr => exact Qt); intro gb134 hg w12 hbox hb; have n0_ := ba_.mk (ga_.below (by repeat (first | (with_reducible first | exact HI0.out | apply ga_.alloc | apply ga_.drewN | apply ga_.drew | apply ga_.tc_ | refine ga_.far ?_ NB0_127.out _) | exact HI0.out)) hb); have n1_ := ba_.mk (pc_ (g := gb127) (o := .cells #[.int .i64 0, .int .i64 0, .int .i64 0, .int .i64 0, .int .i64 0, .int .i64 0] 100 (0, 0)) (Qf BK127.out) hb); have n2_ := ba_.mk (ra_.trans X8 (ra_.sf_ hb g none) (.inl rfl)); have n3_ := ba_.mk (hb_ (by repeat (first | (with_reducible first | exact HB.out | apply da_ | apply aa_ | apply ca_ | refine fa_ ?_ (ga_.ge HI0.out) | refine fa_ ?_ GE127.out) | exact HB.out)) hb); have n4_ := ba_.mk (hbox); have n5_ := ba_.mk ((by rw [hg]; exact (kd_ (w := w) (g := g) (row := none) X8) : w.heap.size ≤ gb134)); have n6_ := ba_.mk ((Nat.le_trans HW0.out (by rw [hg]; exact (kd_ (w := w) (g := g) (row := none) X8) : w.heap.size ≤ gb134) : w0.heap.size ≤ gb134)); have n7_ := ba_.mk ((by rw [hg]; exact Nat.ne_of_lt (bg_ (g := gb127) (o := .cells #[.int .i64 0, .int .i64 0, .int .i64 0, .int .i64 0, .int .i64 0, .int .i64 0] 100 (0, 0)) (Qf BK127.out)) : gb127 ≠ gb134)); have n8_ := ba_.mk ((by rw [hg]; exact Nat.ne_of_gt (bg_ (g := gb127) (o := .cells #[.int .i64 0, .int .i64 0, .int .i64 0, .int .i64 0, .int .i64 0, .int .i64 0] 100 (0, 0)) (Qf BK127.out)) : gb134 ≠ gb127)); have n9_ := ba_.mk ((by rw [hg]; exact Nat.ne_of_lt (ga_.lt (show ga_ w0 _ g s0_0 t133 from by repeat (first | (with_reducible first | exact HI0.out | apply ga_.alloc | apply ga_.drewN | apply ga_.drew | apply ga_.tc_ | refine ga_.far ?_ NB0_127.out _) | exact HI0.out))) : g ≠ gb134)); have n10_ := ba_.mk ((by rw [hg]; exact Nat.ne_of_gt (ga_.lt (show ga_ w0 _ g s0_0 t133 from by repeat (first | (with_reducible first | exact HI0.out | apply ga_.alloc | apply ga_.drewN | apply ga_.drew | apply ga_.tc_ | refine ga_.far ?_ NB0_127.out _) | exact HI0.out))) : gb134 ≠ g)); clear HI0; clear BK127; clear HK; clear HB; have HI0 := n0_; have BK127 := n1_; have HK := n2_; have HB := n3_; have BK134 := n4_; have GW134 := n5_; have GE134 := n6_; have NB127_134 := n7_; have NB134_127 := n8_; have NB0_134 := n9_; have NB134_0 := n10_; clear n0_ n1_ n2_ n3_ n4_ n5_ n6_ n7_ n8_ n9_ n10_; clear hb hbox hg; have hnb13 := NB134_127.out; have hnc13 := NB127_134.out; have hnb14 := NB134_0.out; have hnc14 := NB0_134.out; have hcz15_0 : w12.cell? ⟨gb134, 0, none⟩ = some (.int .i64 0) := (la_ BK134.out 0).trans rfl; have hcz15_1 : w12.cell? ⟨gb134, 1, none⟩ = some (.int .i64 0) := (la_ BK134.out 1).trans rfl; have hcz15_2 : w12.cell? ⟨gb134, 2, none⟩ = some (.int .i64 0) := (la_ BK134.out 2).trans rfl; have hcz15_3 : w12.cell? ⟨gb134, 3, none⟩ = some (.int .i64 0) := (la_ BK134.out 3).trans rfl; have hcz15_4 : w12.cell? ⟨gb134, 4, none⟩ = some (.int .i64 0) := (la_ BK134.out 4).trans rfl; have hcz15_5 : w12.cell? ⟨gb134, 5, none⟩ = some (.int .i64 0) := (la_ BK134.out 5).trans rfl; have hfz15_0 := ja_ BK134.out 0; have hfz15_1 := ja_ BK134.out 1; have hfz15_2 := ja_ BK134.out 2; have hfz15_3 := ja_ BK134.out 3; have hfz15_4 := ja_ BK134.out 4; have hfz15_5 := ja_ BK134.out 5) | ((with_reducible refine va_ (f := 30) rfl ?_); refine lc_ (some 14) rfl rfl Tryz.func30 Qb rfl #[.pointer (some ⟨g, 0, none⟩), .int .i64 3] rfl Qm ?_; (with_reducible refine (oa_.calls g s0_0 t133 3 t135 t136 w0 _ ?side1 ?side2 A6.out).mono ?_); (case side1 => exact Yi); (case side2 => exact Yj); rintro e w16 ⟨rfl, hi, hb, hk⟩; refine ⟨_, rfl, ?_⟩; have n0_ := ba_.mk (ra_.blk hk (g' := gb127) (o := .cells #[.int .i64 0, .int .i64 0, .int .i64 0, .int .i64 0, .int .i64 0, .int .i64 0] 100 (0, 0)) (by (with_reducible repeat (first | refine ia_ ?_ _ | refine ma_ ?_ | refine ha_ ?_ _)); refine ie_ ?_ NB127_134.out _; (with_reducible repeat (first | refine ia_ ?_ _ | refine ma_ ?_ | refine ha_ ?_ _)); refine ie_ ?_ NB127_134.out _; (with_reducible repeat (first | refine ia_ ?_ _ | refine ma_ ?_ | refine ha_ ?_ _)); refine ie_ ?_ NB127_134.out _; (with_reducible repeat (first | refine ia_ ?_ _ | refine ma_ ?_ | refine ha_ ?_ _)); refine ie_ ?_ NB127_134.out _; (with_reducible repeat (first | refine ia_ ?_ _ | refine ma_ ?_ | refine ha_ ?_ _)); refine ie_ ?_ NB127_134.out _; (with_reducible repeat (first | refine ia_ ?_ _ | refine ma_ ?_ | refine ha_ ?_ _)); refine ie_ ?_ NB127_134.out _; (with_reducible repeat (first | refine ia_ ?_ _ | refine ma_ ?_ | refine ha_ ?_ _)); exact BK127.out) NB127_0.out Qj); have n1_ := ba_.mk (ra_.blk hk (g' := gb134) (o := .cells #[.int .i64 1, .int .i64 t128, .int .i64 t130, .int .i64 t132, .int .i64 0, .int .i64 0] 100 (0, 0)) (by (with_reducible repeat (first | refine ia_ ?_ _ | refine ma_ ?_ | refine ha_ ?_ _)); refine sc_ (cs := #[.int .i64 1, .int .i64 t128, .int .i64 t130, .int .i64 t132, .int .i64 0, .int .i64 0]) ?_ 5 _ rfl; (with_reducible repeat (first | refine ia_ ?_ _ | refine ma_ ?_ | refine ha_ ?_ _)); refine sc_ (cs := #[.int .i64 1, .int .i64 t128, .int .i64 t130, .int .i64 t132, .int .i64 0, .int .i64 0]) ?_ 4 _ rfl; (with_reducible repeat (first | refine ia_ ?_ _ | refine ma_ ?_ | refine ha_ ?_ _)); refine sc_ (cs := #[.int .i64 1, .int .i64 t128, .int .i64 t130, .int .i64 0, .int .i64 0, .int .i64 0]) ?_ 3 _ rfl; (with_reducible repeat (first | refine ia_ ?_ _ | refine ma_ ?_ | refine ha_ ?_ _)); refine sc_ (cs := #[.int .i64 1, .int .i64 t128, .int .i64 0, .int .i64 0, .int .i64 0, .int .i64 0]) ?_ 2 _ rfl; (with_reducible repeat (first | refine ia_ ?_ _ | refine ma_ ?_ | refine ha_ ?_ _)); refine sc_ (cs := #[.int .i64 1, .int .i64 0, .int .i64 0, .int .i64 0, .int .i64 0, .int .i64 0]) ?_ 1 _ rfl; (with_reducible repeat (first | refine ia_ ?_ _ | refine ma_ ?_ | refine ha_ ?_ _)); refine sc_ (cs := #[.int .i64 0, .int .i64 0, .int .i64 0, .int .i64 0, .int .i64 0, .int .i64 0]) ?_ 0 _ rfl; (with_reducible repeat (first | refine ia_ ?_ _ | refine ma_ ?_ | refine ha_ ?_ _)); exact BK134.out) NB134_0.out Qj); have n2_ := ba_.mk (ra_.trans Xq hk (.inl rfl)); have n3_ := ba_.mk (hb); have n4_ := ba_.mk (hi); clear BK127; clear BK134; clear HK; clear HB; clear HI0; have BK127 := n0_; have BK134 := n1_; have HK := n2_; have HB := n3_; have HI0 := n4_; clear n0_ n1_ n2_ n3_ n4_; (try clear hb); (try clear hb2); (try clear hk); (try clear hi)))
 (try simp only [Act.put, List.setIfInBounds_toArray, List.set_cons_zero, List.set_cons_succ])
 go_cut [] (fun wc => ∃ (kq : Nat) (x1001_6 : Int) (x135000_6 : Int) (x135001_6 : Int) (x135004_6 : Int) (x135005_6 : Int), ba_ (xa_.j0 kq a1 s0_0 x1001_6 x135000_6 x135001_6 t130 t132 x135004_6 x135005_6 = some (r1, r2, r3, r4, r5, r6, r7)) ∧ ba_ (kq ≤ k) ∧ ba_ (wc.heap[gb127]? = some (.cells #[.int .i64 0, .int .i64 0, .int .i64 0, .int .i64 0, .int .i64 0, .int .i64 0] 100 (0, 0))) ∧ ba_ (wc.heap[gb134]? = some (.cells #[.int .i64 x135000_6, .int .i64 x135001_6, .int .i64 t130, .int .i64 t132, .int .i64 x135004_6, .int .i64 x135005_6] 100 (0, 0))) ∧ ba_ (ga_ w0 wc g s0_0 x1001_6) ∧ ba_ (ra_ w wc g none) ∧ ba_ (Below w0.heap.size w0 wc))
 case first =>
  have H := HC7.out
  clear HC7
  by_cases c17 : t135 = 0
  rotate_left
  ·rw [if_neg c17] at H
   have c17b0 : (t135 == 0) = false := beq_eq_false_iff_ne.mpr c17
   have c17b1 : (t135 != 0) = true := bne_iff_ne.mpr c17
   (first | rw [c17b0] | (simp only [yb_, ac_]; rw [c17b0]) | skip)
   have H' := ba_.mk H
   clear H
   go_wp2
   go_meet
   case rel => exact ⟨_, (t136), (1), (t128), (0), (0), H', ⟨Xu⟩, ⟨by (with_reducible repeat (first | refine ia_ ?_ _ | refine ma_ ?_ | refine ha_ ?_ _)); exact BK127.out⟩, ⟨by (with_reducible repeat (first | refine ia_ ?_ _ | refine ma_ ?_ | refine ha_ ?_ _)); exact BK134.out⟩, ⟨Yr⟩, ⟨Xq⟩, ⟨Ys⟩⟩
  rw [if_pos c17] at H
  have c17b0 : (t135 == 0) = true := beq_iff_eq.mpr c17
  have c17b1 : (t135 != 0) = false := bne_eq_false_iff_eq.mpr c17
  clear c17
  (first | rw [c17b0] | (simp only [yb_, ac_]; rw [c17b0]) | skip)
  obtain ⟨⟨t137, t138⟩, A18, H⟩ := Qo H
  try dsimp only at H
  obtain ⟨⟨t139, t140⟩, A19, H⟩ := Qo H
  try dsimp only at H
  obtain ⟨⟨t141, t142⟩, A20, H⟩ := Qo H
  try dsimp only at H
  have H' := ba_.mk H
  clear H
  go_wp2_with (first | ((with_reducible refine va_ (f := 31) rfl ?_); refine lc_ (some 17) rfl rfl Tryz.func31 Qb rfl #[.pointer (some ⟨g, 0, none⟩), .int .i64 2, .int .i64 5] rfl Qm ?_; (with_reducible refine (ob_.calls g s0_0 t136 2 5 t137 t138 w0 _ ?side1 ?side2 A18.out).mono ?_); (case side1 => exact Yi); (case side2 => exact Yj); rintro e w21 ⟨rfl, hi, hb, hk⟩; refine ⟨_, rfl, ?_⟩; have n0_ := ba_.mk (ra_.blk hk (g' := gb127) (o := .cells #[.int .i64 0, .int .i64 0, .int .i64 0, .int .i64 0, .int .i64 0, .int .i64 0] 100 (0, 0)) (Qf BK127.out) NB127_0.out Qj); have n1_ := ba_.mk (ra_.blk hk (g' := gb134) (o := .cells #[.int .i64 1, .int .i64 t128, .int .i64 t130, .int .i64 t132, .int .i64 0, .int .i64 0] 100 (0, 0)) (Qf BK134.out) NB134_0.out Qj); have n2_ := ba_.mk (ra_.trans Xq hk (.inl rfl)); have n3_ := ba_.mk (hb); have n4_ := ba_.mk (hi); clear BK127; clear BK134; clear HK; clear HB; clear HI0; have BK127 := n0_; have BK134 := n1_; have HK := n2_; have HB := n3_; have HI0 := n4_; clear n0_ n1_ n2_ n3_ n4_; (try clear hb); (try clear hb2); (try clear hk); (try clear hi); have hnb22 := NB134_127.out; have hnc22 := NB127_134.out; have hnb23 := NB134_0.out; have hnc23 := NB0_134.out; have hcz24_0 : w21.cell? ⟨gb134, 0, none⟩ = some (.int .i64 1) := (la_ BK134.out 0).trans rfl; have hcz24_1 : w21.cell? ⟨gb134, 1, none⟩ = some (.int .i64 t128) := (la_ BK134.out 1).trans rfl; have hcz24_2 : w21.cell? ⟨gb134, 2, none⟩ = some (.int .i64 t130) := (la_ BK134.out 2).trans rfl; have hcz24_3 : w21.cell? ⟨gb134, 3, none⟩ = some (.int .i64 t132) := (la_ BK134.out 3).trans rfl; have hcz24_4 : w21.cell? ⟨gb134, 4, none⟩ = some (.int .i64 0) := (la_ BK134.out 4).trans rfl; have hcz24_5 : w21.cell? ⟨gb134, 5, none⟩ = some (.int .i64 0) := (la_ BK134.out 5).trans rfl; have hfz24_0 := ja_ BK134.out 0; have hfz24_1 := ja_ BK134.out 1; have hfz24_2 := ja_ BK134.out 2; have hfz24_3 := ja_ BK134.out 3; have hfz24_4 := ja_ BK134.out 4; have hfz24_5 := ja_ BK134.out 5) | ((with_reducible refine va_ (f := 30) rfl ?_); refine lc_ (some 23) rfl rfl Tryz.func30 Qb rfl #[.pointer (some ⟨g, 0, none⟩), .int .i64 t137] rfl Qm ?_; (with_reducible refine (oa_.calls g s0_0 t138 t137 t139 t140 w0 _ ?side1 ?side2 A19.out).mono ?_); (case side1 => exact Yi); (case side2 => exact Yj); rintro e w25 ⟨rfl, hi, hb, hk⟩; refine ⟨_, rfl, ?_⟩; have n0_ := ba_.mk (ra_.blk hk (g' := gb127) (o := .cells #[.int .i64 0, .int .i64 0, .int .i64 0, .int .i64 0, .int .i64 0, .int .i64 0] 100 (0, 0)) (by (with_reducible repeat (first | refine ia_ ?_ _ | refine ma_ ?_ | refine ha_ ?_ _)); refine ie_ ?_ NB127_134.out _; (with_reducible repeat (first | refine ia_ ?_ _ | refine ma_ ?_ | refine ha_ ?_ _)); refine ie_ ?_ NB127_134.out _; (with_reducible repeat (first | refine ia_ ?_ _ | refine ma_ ?_ | refine ha_ ?_ _)); exact BK127.out) NB127_0.out Qj); have n1_ := ba_.mk (ra_.blk hk (g' := gb134) (o := .cells #[.int .i64 2, .int .i64 t128, .int .i64 t130, .int .i64 t132, .int .i64 t137, .int .i64 0] 100 (0, 0)) (by (with_reducible repeat (first | refine ia_ ?_ _ | refine ma_ ?_ | refine ha_ ?_ _)); refine sc_ (cs := #[.int .i64 2, .int .i64 t128, .int .i64 t130, .int .i64 t132, .int .i64 0, .int .i64 0]) ?_ 4 _ rfl; (with_reducible repeat (first | refine ia_ ?_ _ | refine ma_ ?_ | refine ha_ ?_ _)); refine sc_ (cs := #[.int .i64 1, .int .i64 t128, .int .i64 t130, .int .i64 t132, .int .i64 0, .int .i64 0]) ?_ 0 _ rfl; (with_reducible repeat (first | refine ia_ ?_ _ | refine ma_ ?_ | refine ha_ ?_ _)); exact BK134.out) NB134_0.out Qj); have n2_ := ba_.mk (ra_.trans Xq hk (.inl rfl)); have n3_ := ba_.mk (hb); have n4_ := ba_.mk (hi); clear BK127; clear BK134; clear HK; clear HB; clear HI0; have BK127 := n0_; have BK134 := n1_; have HK := n2_; have HB := n3_; have HI0 := n4_; clear n0_ n1_ n2_ n3_ n4_; (try clear hb); (try clear hb2); (try clear hk); (try clear hi)) | ((with_reducible refine va_ (f := 31) rfl ?_); refine lc_ (some 25) rfl rfl Tryz.func31 Qb rfl #[.pointer (some ⟨g, 0, none⟩), .int .i64 1, .int .i64 3] rfl Qm ?_; (with_reducible refine (ob_.calls g s0_0 t140 1 3 t141 t142 w0 _ ?side1 ?side2 A20.out).mono ?_); (case side1 => exact Yi); (case side2 => exact Yj); rintro e w26 ⟨rfl, hi, hb, hk⟩; refine ⟨_, rfl, ?_⟩; have n0_ := ba_.mk (ra_.blk hk (g' := gb127) (o := .cells #[.int .i64 0, .int .i64 0, .int .i64 0, .int .i64 0, .int .i64 0, .int .i64 0] 100 (0, 0)) (Qf BK127.out) NB127_0.out Qj); have n1_ := ba_.mk (ra_.blk hk (g' := gb134) (o := .cells #[.int .i64 2, .int .i64 t128, .int .i64 t130, .int .i64 t132, .int .i64 t137, .int .i64 0] 100 (0, 0)) (Qf BK134.out) NB134_0.out Qj); have n2_ := ba_.mk (ra_.trans Xq hk (.inl rfl)); have n3_ := ba_.mk (hb); have n4_ := ba_.mk (hi); clear BK127; clear BK134; clear HK; clear HB; clear HI0; have BK127 := n0_; have BK134 := n1_; have HK := n2_; have HB := n3_; have HI0 := n4_; clear n0_ n1_ n2_ n3_ n4_; (try clear hb); (try clear hb2); (try clear hk); (try clear hi); have hcz27_0 : w26.cell? ⟨gb134, 0, none⟩ = some (.int .i64 2) := (la_ BK134.out 0).trans rfl; have hcz27_1 : w26.cell? ⟨gb134, 1, none⟩ = some (.int .i64 t128) := (la_ BK134.out 1).trans rfl; have hcz27_2 : w26.cell? ⟨gb134, 2, none⟩ = some (.int .i64 t130) := (la_ BK134.out 2).trans rfl; have hcz27_3 : w26.cell? ⟨gb134, 3, none⟩ = some (.int .i64 t132) := (la_ BK134.out 3).trans rfl; have hcz27_4 : w26.cell? ⟨gb134, 4, none⟩ = some (.int .i64 t137) := (la_ BK134.out 4).trans rfl; have hcz27_5 : w26.cell? ⟨gb134, 5, none⟩ = some (.int .i64 0) := (la_ BK134.out 5).trans rfl; have hfz27_0 := ja_ BK134.out 0; have hfz27_1 := ja_ BK134.out 1; have hfz27_2 := ja_ BK134.out 2; have hfz27_3 := ja_ BK134.out 3; have hfz27_4 := ja_ BK134.out 4; have hfz27_5 := ja_ BK134.out 5))
  go_meet
  case rel => exact ⟨_, (t142), (2), (t141), (t137), (t139), H', ⟨Xu⟩, ⟨by (with_reducible repeat (first | refine ia_ ?_ _ | refine ma_ ?_ | refine ha_ ?_ _)); refine ie_ ?_ NB127_134.out _; (with_reducible repeat (first | refine ia_ ?_ _ | refine ma_ ?_ | refine ha_ ?_ _)); refine ie_ ?_ NB127_134.out _; (with_reducible repeat (first | refine ia_ ?_ _ | refine ma_ ?_ | refine ha_ ?_ _)); exact BK127.out⟩, ⟨by (with_reducible repeat (first | refine ia_ ?_ _ | refine ma_ ?_ | refine ha_ ?_ _)); refine sc_ (cs := #[.int .i64 2, .int .i64 t128, .int .i64 t130, .int .i64 t132, .int .i64 t137, .int .i64 t139]) ?_ 1 _ rfl; (with_reducible repeat (first | refine ia_ ?_ _ | refine ma_ ?_ | refine ha_ ?_ _)); refine sc_ (cs := #[.int .i64 2, .int .i64 t128, .int .i64 t130, .int .i64 t132, .int .i64 t137, .int .i64 0]) ?_ 5 _ rfl; (with_reducible repeat (first | refine ia_ ?_ _ | refine ma_ ?_ | refine ha_ ?_ _)); exact BK134.out⟩, ⟨Yr⟩, ⟨Xq⟩, ⟨Ys⟩⟩
 case rest =>
  clear HC7
  try clear c1
  try clear c2
  try clear p2
  try clear c3
  try clear c6
  try clear c13
  try clear c14
  try clear c17
  try clear c17b0
  try clear c17b1
  try clear c22
  try clear c23
  try clear hcz15_0
  try clear hcz15_1
  try clear hcz15_2
  try clear hcz15_3
  try clear hcz15_4
  try clear hcz15_5
  try clear hcz24_0
  try clear hcz24_1
  try clear hcz24_2
  try clear hcz24_3
  try clear hcz24_4
  try clear hcz24_5
  try clear hcz27_0
  try clear hcz27_1
  try clear hcz27_2
  try clear hcz27_3
  try clear hcz27_4
  try clear hcz27_5
  try clear hfz15_0
  try clear hfz15_1
  try clear hfz15_2
  try clear hfz15_3
  try clear hfz15_4
  try clear hfz15_5
  try clear hfz24_0
  try clear hfz24_1
  try clear hfz24_2
  try clear hfz24_3
  try clear hfz24_4
  try clear hfz24_5
  try clear hfz27_0
  try clear hfz27_1
  try clear hfz27_2
  try clear hfz27_3
  try clear hfz27_4
  try clear hfz27_5
  obtain ⟨kq, x1001_6, x135000_6, x135001_6, x135004_6, x135005_6, HA, HJ6, BK127, BK134, HI0, HK, HB⟩ := hcut
  cases kq with
  | zero => exact absurd HA.out (by simp [xa_.j0])
  | succ kj6 =>
   have H := HA.out
   clear HA
   simp only [xa_.j0] at H
   have HC28 := ba_.mk H
   clear H
   go_upto_region 5 with (fail)
   go_cut [34] (fun v34 wc => ∃ (kq : Nat) (x34_27 : Bool) (x1001_27 : Int), v34 = .bool x34_27 ∧ ba_ (xa_.j1 kq x34_27 s0_0 x1001_27 x135000_6 x135001_6 t130 t132 x135004_6 x135005_6 = some (r1, r2, r3, r4, r5, r6, r7)) ∧ ba_ (kq ≤ kj6) ∧ ba_ (wc.heap[gb127]? = some (.cells #[.int .i64 0, .int .i64 0, .int .i64 0, .int .i64 0, .int .i64 0, .int .i64 0] 100 (0, 0))) ∧ ba_ (wc.heap[gb134]? = some (.cells #[.int .i64 x135000_6, .int .i64 x135001_6, .int .i64 t130, .int .i64 t132, .int .i64 x135004_6, .int .i64 x135005_6] 100 (0, 0))) ∧ ba_ (ga_ w0 wc g s0_0 x1001_27) ∧ ba_ (ra_ w wc g none) ∧ ba_ (Below w0.heap.size w0 wc))
   case first =>
    have H := HC28.out
    clear HC28
    by_cases c29 : a1 > 0
    rotate_left
    ·rw [if_neg c29] at H
     have c29b0 : decide (0 < a1) = false := decide_eq_false c29
     clear c29
     (first | rw [c29b0] | (simp only [yb_, ac_]; rw [c29b0]) | skip)
     have H' := ba_.mk H
     clear H
     go_wp2
     go_meet
     case rel => exact ⟨_, (false), (x1001_6), Ql, H', ⟨by have := HJ6.out; first | omega | exact Nat.le_refl _⟩, ⟨by (with_reducible repeat (first | refine ia_ ?_ _ | refine ma_ ?_ | refine ha_ ?_ _)); exact BK127.out⟩, ⟨by (with_reducible repeat (first | refine ia_ ?_ _ | refine ma_ ?_ | refine ha_ ?_ _)); exact BK134.out⟩, ⟨Yr⟩, ⟨Xq⟩, ⟨Ys⟩⟩
    rw [if_pos c29] at H
    have c29b0 : decide (0 < a1) = true := decide_eq_true c29
    clear c29
    (first | rw [c29b0] | (simp only [yb_, ac_]; rw [c29b0]) | skip)
    obtain ⟨⟨t143, t144⟩, A30, H⟩ := Qo H
    try dsimp only at H
    have H' := ba_.mk H
    clear H
    go_wp2_with (first | (go_at_call 34; (with_reducible refine (oe_.calls g s0_0 x1001_6 a1 t143 t144 w0 _ ?side1 ?side2 A30.out).mono ?_); (case side1 => exact Yi); (case side2 => exact Yj); rintro e w31 ⟨rfl, hi, hb, hk⟩; have n0_ := ba_.mk (ra_.blk hk (g' := gb127) (o := .cells #[.int .i64 0, .int .i64 0, .int .i64 0, .int .i64 0, .int .i64 0, .int .i64 0] 100 (0, 0)) (Qf BK127.out) NB127_0.out Qj); have n1_ := ba_.mk (ra_.blk hk (g' := gb134) (o := .cells #[.int .i64 x135000_6, .int .i64 x135001_6, .int .i64 t130, .int .i64 t132, .int .i64 x135004_6, .int .i64 x135005_6] 100 (0, 0)) (Qf BK134.out) NB134_0.out Qj); have n2_ := ba_.mk (ra_.trans Xq hk (.inl rfl)); have n3_ := ba_.mk (hb); have n4_ := ba_.mk (hi); clear BK127; clear BK134; clear HK; clear HB; clear HI0; have BK127 := n0_; have BK134 := n1_; have HK := n2_; have HB := n3_; have HI0 := n4_; clear n0_ n1_ n2_ n3_ n4_; (try clear hb); (try clear hb2); (try clear hk); (try clear hi)))
    go_meet
    case rel => exact ⟨_, (t143), (t144), Ql, H', ⟨by have := HJ6.out; first | omega | exact Nat.le_refl _⟩, ⟨by (with_reducible repeat (first | refine ia_ ?_ _ | refine ma_ ?_ | refine ha_ ?_ _)); exact BK127.out⟩, ⟨by (with_reducible repeat (first | refine ia_ ?_ _ | refine ma_ ?_ | refine ha_ ?_ _)); exact BK134.out⟩, ⟨Yr⟩, ⟨Xq⟩, ⟨Ys⟩⟩
   case rest =>
    clear HC28
    try clear c1
    try clear c2
    try clear p2
    try clear c3
    try clear c6
    try clear c13
    try clear c14
    try clear c17
    try clear c17b0
    try clear c17b1
    try clear c22
    try clear c23
    try clear c29
    try clear c29b0
    try clear c30
    try clear c31
    try clear hcz15_0
    try clear hcz15_1
    try clear hcz15_2
    try clear hcz15_3
    try clear hcz15_4
    try clear hcz15_5
    try clear hcz24_0
    try clear hcz24_1
    try clear hcz24_2
    try clear hcz24_3
    try clear hcz24_4
    try clear hcz24_5
    try clear hcz27_0
    try clear hcz27_1
    try clear hcz27_2
    try clear hcz27_3
    try clear hcz27_4
    try clear hcz27_5
    try clear hfz15_0
    try clear hfz15_1
    try clear hfz15_2
    try clear hfz15_3
    try clear hfz15_4
    try clear hfz15_5
    try clear hfz24_0
    try clear hfz24_1
    try clear hfz24_2
    try clear hfz24_3
    try clear hfz24_4
    try clear hfz24_5
    try clear hfz27_0
    try clear hfz27_1
    try clear hfz27_2
    try clear hfz27_3
    try clear hfz27_4
    try clear hfz27_5
    try clear p2
    obtain ⟨kq, x34_27, x1001_27, rfl, HA, HJ27, BK127, BK134, HI0, HK, HB⟩ := hcut
    cases kq with
    | zero => exact absurd HA.out (by simp [xa_.j1])
    | succ kj27 =>
     have H := HA.out
     clear HA
     simp only [xa_.j1] at H
     by_cases c32 : x34_27 = true
     ·subst c32
      exact absurd H Qj
     replace c32 := Bool.eq_false_iff.mpr c32
     subst c32
     have H1 : (some (x135000_6, x135001_6, t130, t132, x135004_6, x135005_6, x1001_27)) = some (r1, r2, r3, r4, r5, r6, r7) := by rw [if_neg (show ¬ (false = true) by decide)] at H; exact H
     clear H
     have H := H1
     clear H1
     simp only [Option.some.injEq, Prod.mk.injEq] at H
     obtain ⟨rfl, rfl, rfl, rfl, rfl, rfl, rfl⟩ := H
     have hnb90 := NB134_127.out
     have hnc90 := NB127_134.out
     have hnb91 := NB134_0.out
     have hnc91 := NB0_134.out
     have hcz92_0 : wc.cell? ⟨gb134, 0, none⟩ = some (.int .i64 x135000_6) := (la_ BK134.out 0).trans rfl
     have hcz92_1 : wc.cell? ⟨gb134, 1, none⟩ = some (.int .i64 x135001_6) := (la_ BK134.out 1).trans rfl
     have hcz92_2 : wc.cell? ⟨gb134, 2, none⟩ = some (.int .i64 t130) := (la_ BK134.out 2).trans rfl
     have hcz92_3 : wc.cell? ⟨gb134, 3, none⟩ = some (.int .i64 t132) := (la_ BK134.out 3).trans rfl
     have hcz92_4 : wc.cell? ⟨gb134, 4, none⟩ = some (.int .i64 x135004_6) := (la_ BK134.out 4).trans rfl
     have hcz92_5 : wc.cell? ⟨gb134, 5, none⟩ = some (.int .i64 x135005_6) := (la_ BK134.out 5).trans rfl
     have hfz92_0 := ja_ BK134.out 0
     have hfz92_1 := ja_ BK134.out 1
     have hfz92_2 := ja_ BK134.out 2
     have hfz92_3 := ja_ BK134.out 3
     have hfz92_4 := ja_ BK134.out 4
     have hfz92_5 := ja_ BK134.out 5
     have hnb93 := NB127_0.out
     have hnc93 := NB0_127.out
     have hcz94_0 : wc.cell? ⟨gb127, 0, none⟩ = some (.int .i64 0) := (la_ BK127.out 0).trans rfl
     have hcz94_1 : wc.cell? ⟨gb127, 1, none⟩ = some (.int .i64 0) := (la_ BK127.out 1).trans rfl
     have hcz94_2 : wc.cell? ⟨gb127, 2, none⟩ = some (.int .i64 0) := (la_ BK127.out 2).trans rfl
     have hcz94_3 : wc.cell? ⟨gb127, 3, none⟩ = some (.int .i64 0) := (la_ BK127.out 3).trans rfl
     have hcz94_4 : wc.cell? ⟨gb127, 4, none⟩ = some (.int .i64 0) := (la_ BK127.out 4).trans rfl
     have hcz94_5 : wc.cell? ⟨gb127, 5, none⟩ = some (.int .i64 0) := (la_ BK127.out 5).trans rfl
     have hfz94_0 := ja_ BK127.out 0
     have hfz94_1 := ja_ BK127.out 1
     have hfz94_2 := ja_ BK127.out 2
     have hfz94_3 := ja_ BK127.out 3
     have hfz94_4 := ja_ BK127.out 4
     have hfz94_5 := ja_ BK127.out 5
     go_wp2
     refine bodyPost_ret (results_cell_row rfl _ _ gb127 100 #[.int .i64 x135000_6, .int .i64 x135001_6, .int .i64 t130, .int .i64 t132, .int .i64 x135004_6, .int .i64 x135005_6] (0, 0) _ rfl (by (with_reducible repeat (first | refine ia_ ?_ _ | refine ma_ ?_ | refine ha_ ?_ _)); refine sc_ (cs := #[.int .i64 x135000_6, .int .i64 x135001_6, .int .i64 t130, .int .i64 t132, .int .i64 x135004_6, .int .i64 0]) ?_ 5 _ rfl; (with_reducible repeat (first | refine ia_ ?_ _ | refine ma_ ?_ | refine ha_ ?_ _)); refine sc_ (cs := #[.int .i64 x135000_6, .int .i64 x135001_6, .int .i64 t130, .int .i64 t132, .int .i64 0, .int .i64 0]) ?_ 4 _ rfl; (with_reducible repeat (first | refine ia_ ?_ _ | refine ma_ ?_ | refine ha_ ?_ _)); refine sc_ (cs := #[.int .i64 x135000_6, .int .i64 x135001_6, .int .i64 t130, .int .i64 0, .int .i64 0, .int .i64 0]) ?_ 3 _ rfl; (with_reducible repeat (first | refine ia_ ?_ _ | refine ma_ ?_ | refine ha_ ?_ _)); refine sc_ (cs := #[.int .i64 x135000_6, .int .i64 x135001_6, .int .i64 0, .int .i64 0, .int .i64 0, .int .i64 0]) ?_ 2 _ rfl; (with_reducible repeat (first | refine ia_ ?_ _ | refine ma_ ?_ | refine ha_ ?_ _)); refine sc_ (cs := #[.int .i64 x135000_6, .int .i64 0, .int .i64 0, .int .i64 0, .int .i64 0, .int .i64 0]) ?_ 1 _ rfl; (with_reducible repeat (first | refine ia_ ?_ _ | refine ma_ ?_ | refine ha_ ?_ _)); refine sc_ (cs := #[.int .i64 0, .int .i64 0, .int .i64 0, .int .i64 0, .int .i64 0, .int .i64 0]) ?_ 0 _ rfl; (with_reducible repeat (first | refine ia_ ?_ _ | refine ma_ ?_ | refine ha_ ?_ _)); exact BK127.out) Tryz.underlying100 rfl Qb) rfl ?_
     exact ⟨Qu, Yr, Ys, Xq⟩
def eb_.l0 : Nat → Int → List Int → Int → Int → Int → List (S100) → Option (Int × Int × (List (S100)) × Int)
 | 0, _, _, _, _, _, _ => none
 | k + 1, x8, x1000, x1001, x164000, x164001, x164002 => if x8 > 0 then ((xa_.f k x1000 x1001 0).bind fun bt166 => (if x164002.length < 2932031007402 then (eb_.l0 k (wrap64 (x8 - 1)) x1000 bt166.2.2.2.2.2.2 x164000 x164001 (x164002 ++ [(⟨bt166.1, bt166.2.1, bt166.2.2.1, bt166.2.2.2.1, bt166.2.2.2.2.1, bt166.2.2.2.2.2.1⟩ : S100)])) else (none))) else (some (x164000, x164001, x164002, x1001))
def eb_.f (k : Nat) (s0_0 : List Int) (s0_1 : Int) (a1 : Int) (a2 : Int) : Option (Int × Int × (List (S100)) × Int) := (ob_.f s0_0 s0_1 1 6).bind fun bt164 => (eb_.l0 k bt164.1 s0_0 bt164.2 a1 a2 ([] : List (S100)))
theorem eb_.nd_ : ∀ k, (∀ y0 y1 y2 y3 y4 y5, LeO (eb_.l0 k y0 y1 y2 y3 y4 y5) (eb_.l0 (k + 1) y0 y1 y2 y3 y4 y5))
 | 0 => fun _ _ _ _ _ _ r h => by simp [eb_.l0] at h
 | k + 1 => by
  have ih0 := eb_.nd_ k
  intro y0 y1 y2 y3 y4 y5
  unfold eb_.l0
  have m0 := xa_.mono
  exact Qr
theorem eb_.mono : ∀ a0 a1 a2 a3 k, LeO (eb_.f k a0 a1 a2 a3) (eb_.f (k + 1) a0 a1 a2 a3) := by
 intro a0 a1 a2 a3 k
 have ih0 := eb_.nd_ k
 unfold eb_.f
 have m0 := xa_.mono
 exact Qr
def eb_.T5 : Bool × List (List Nat × List Nat) := (true, [([], []), ([0], [0]), ([], []), ([2], [2]), ([3], [3]), ([1, 4, 3], [1, 4]), ([0, 1, 2, 3, 4, 5], []), ([6, 5, 5, 0, 1, 2, 3, 4, 5], [5, 6])])
def eb_.B5 : List Nat := [0, 1, 0, 4, 12, 31, 63, 127]
theorem eb_.tab5 : rtab .any (opsOf Tryz.f32 5) = eb_.T5 := by kernel_rfl
theorem eb_.bits5 : ni_ eb_.T5.2 eb_.B5 = true := by kernel_rfl
set_option maxHeartbeats 8000000 in
set_option maxRecDepth 100000 in
theorem eb_.calls (k : Nat) (g : Nat) (s0_0 : List Int) (s0_1 : Int) (a1 : Int) (a2 : Int) (r1 : Int) (r2 : Int) (r3 : List (S100)) (r4 : Int) (w0 w : World) (hI : ga_ w0 w g s0_0 s0_1) (hB : Below w0.heap.size w0 w) (h : eb_.f k s0_0 s0_1 a1 a2 = some (r1, r2, r3, r4)) :
  Calls Tryz.prog 32 #[.pointer (some ⟨g, 0, none⟩), .int .i64 a1, .int .i64 a2] w fun e w' => ∃ v2_ : Value, e = .returned (.agg #[.int .i64 r1, .int .i64 r2, v2_]) ∧ Kd.R k100 100 w' w.heap.size (fun _ => True) v2_ r3 ∧ ga_ w0 w' g s0_0 r4 ∧ Below w0.heap.size w0 w' ∧ ra_ w w' g none := by
 have hu65 := Tryz.underlying65
 have HI0 := ba_.mk hI
 have HK := ba_.mk (ra_.refl w g none)
 have HL := ba_.mk hB.size
 clear hI
 have HW0 := ba_.mk hB.size
 have HB := ba_.mk hB
 clear hB
 have H : ((ob_.f s0_0 s0_1 1 6).bind fun bt164 => (eb_.l0 k bt164.1 s0_0 bt164.2 a1 a2 ([] : List (S100)))) = some (r1, r2, r3, r4) := h
 clear h
 obtain ⟨⟨t164, t165⟩, A4, H⟩ := Qo H
 try dsimp only at H
 have H' := ba_.mk H
 clear H
 go_enter Tryz.func32, Tryz.ntmps32
 go_wp2_with (first | ((with_reducible refine ld_ (N := 6) rfl ?_); refine de_ ?hg (N := 6) ?hd (cs := #[.int .i64 0, .int .i64 0, .slice none 0 0]) (t := 65) ?hr ?_; (case hd => rfl); (case hg => rfl); (case hr => exact Qt); intro gb162 hg w5 hbox hb; have n0_ := ba_.mk (ga_.below Q2 hb); have n1_ := ba_.mk (ra_.trans Qw (ra_.sf_ hb g none) (.inl rfl)); have n2_ := ba_.mk (hb_ Q3 hb); have n3_ := ba_.mk (hbox); have n4_ := ba_.mk ((by rw [hg]; exact (kd_ (w := w) (g := g) (row := none) Qw) : w.heap.size ≤ gb162)); have n5_ := ba_.mk ((Nat.le_trans HW0.out (by rw [hg]; exact (kd_ (w := w) (g := g) (row := none) Qw) : w.heap.size ≤ gb162) : w0.heap.size ≤ gb162)); have n6_ := ba_.mk ((by rw [hg]; exact Nat.ne_of_lt (ga_.lt (show ga_ w0 _ g s0_0 s0_1 from by repeat (first | (with_reducible first | exact HI0.out | apply ga_.alloc | apply ga_.drewN | apply ga_.drew | apply ga_.tc_) | exact HI0.out))) : g ≠ gb162)); have n7_ := ba_.mk ((by rw [hg]; exact Nat.ne_of_gt (ga_.lt (show ga_ w0 _ g s0_0 s0_1 from by repeat (first | (with_reducible first | exact HI0.out | apply ga_.alloc | apply ga_.drewN | apply ga_.drew | apply ga_.tc_) | exact HI0.out))) : gb162 ≠ g)); clear HI0; clear HK; clear HB; have HI0 := n0_; have HK := n1_; have HB := n2_; have BK162 := n3_; have GW162 := n4_; have GE162 := n5_; have NB0_162 := n6_; have NB162_0 := n7_; clear n0_ n1_ n2_ n3_ n4_ n5_ n6_ n7_; clear hb hbox hg) | ((with_reducible refine ld_ (N := 7) rfl ?_); refine de_ ?hg (N := 7) ?hd (cs := #[.int .i64 0, .int .i64 0, .slice none 0 0]) (t := 65) ?hr ?_; (case hd => rfl); (case hg => rfl); (case hr => exact Qt); intro gb163 hg w6 hbox hb; have n0_ := ba_.mk (ga_.below (by repeat (first | (with_reducible first | exact HI0.out | apply ga_.alloc | apply ga_.drewN | apply ga_.drew | apply ga_.tc_ | refine ga_.far ?_ NB0_162.out _) | exact HI0.out)) hb); have n1_ := ba_.mk (pc_ (g := gb162) (o := .cells #[.int .i64 0, .int .i64 0, .slice none 0 0] 65 (0, 0)) (Qf BK162.out) hb); have n2_ := ba_.mk (ra_.trans (by repeat (first | (with_reducible first | exact HK.out | apply ra_.set_ | apply gb_ | apply qb_ | apply fb_ | refine ta_ ?_ GW162.out _) | exact HK.out)) (ra_.sf_ hb g none) (.inl rfl)); have n3_ := ba_.mk (hb_ (by repeat (first | (with_reducible first | exact HB.out | apply da_ | apply aa_ | apply ca_ | refine fa_ ?_ (ga_.ge HI0.out) | refine fa_ ?_ GE162.out) | exact HB.out)) hb); have n4_ := ba_.mk (hbox); have n5_ := ba_.mk ((by rw [hg]; exact (kd_ (w := w) (g := g) (row := none) (by repeat (first | (with_reducible first | exact HK.out | apply ra_.set_ | apply gb_ | apply qb_ | apply fb_ | refine ta_ ?_ GW162.out _) | exact HK.out))) : w.heap.size ≤ gb163)); have n6_ := ba_.mk ((Nat.le_trans HW0.out (by rw [hg]; exact (kd_ (w := w) (g := g) (row := none) (by repeat (first | (with_reducible first | exact HK.out | apply ra_.set_ | apply gb_ | apply qb_ | apply fb_ | refine ta_ ?_ GW162.out _) | exact HK.out))) : w.heap.size ≤ gb163) : w0.heap.size ≤ gb163)); have n7_ := ba_.mk ((by rw [hg]; exact Nat.ne_of_lt (bg_ (g := gb162) (o := .cells #[.int .i64 0, .int .i64 0, .slice none 0 0] 65 (0, 0)) (Qf BK162.out)) : gb162 ≠ gb163)); have n8_ := ba_.mk ((by rw [hg]; exact Nat.ne_of_gt (bg_ (g := gb162) (o := .cells #[.int .i64 0, .int .i64 0, .slice none 0 0] 65 (0, 0)) (Qf BK162.out)) : gb163 ≠ gb162)); have n9_ := ba_.mk ((by rw [hg]; exact Nat.ne_of_lt (ga_.lt (show ga_ w0 _ g s0_0 s0_1 from by repeat (first | (with_reducible first | exact HI0.out | apply ga_.alloc | apply ga_.drewN | apply ga_.drew | apply ga_.tc_ | refine ga_.far ?_ NB0_162.out _) | exact HI0.out))) : g ≠ gb163)); have n10_ := ba_.mk ((by rw [hg]; exact Nat.ne_of_gt (ga_.lt (show ga_ w0 _ g s0_0 s0_1 from by repeat (first | (with_reducible first | exact HI0.out | apply ga_.alloc | apply ga_.drewN | apply ga_.drew | apply ga_.tc_ | refine ga_.far ?_ NB0_162.out _) | exact HI0.out))) : gb163 ≠ g)); clear HI0; clear BK162; clear HK; clear HB; have HI0 := n0_; have BK162 := n1_; have HK := n2_; have HB := n3_; have BK163 := n4_; have GW163 := n5_; have GE163 := n6_; have NB162_163 := n7_; have NB163_162 := n8_; have NB0_163 := n9_; have NB163_0 := n10_; clear n0_ n1_ n2_ n3_ n4_ n5_ n6_ n7_ n8_ n9_ n10_; clear hb hbox hg; have hnb7 := NB163_162.out; have hnc7 := NB162_163.out; have hnb8 := NB163_0.out; have hnc8 := NB0_163.out; have hcz9_0 : w6.cell? ⟨gb163, 0, none⟩ = some (.int .i64 0) := (la_ BK163.out 0).trans rfl; have hcz9_1 : w6.cell? ⟨gb163, 1, none⟩ = some (.int .i64 0) := (la_ BK163.out 1).trans rfl; have hcz9_2 : w6.cell? ⟨gb163, 2, none⟩ = some (.slice none 0 0) := (la_ BK163.out 2).trans rfl; have hfz9_0 := ja_ BK163.out 0; have hfz9_1 := ja_ BK163.out 1; have hfz9_2 := ja_ BK163.out 2) | ((with_reducible refine va_ (f := 31) rfl ?_); refine lc_ (some 13) rfl rfl Tryz.func31 Qb rfl #[.pointer (some ⟨g, 0, none⟩), .int .i64 1, .int .i64 6] rfl Qm ?_; (with_reducible refine (ob_.calls g s0_0 s0_1 1 6 t164 t165 w0 _ ?side1 ?side2 A4.out).mono ?_); (case side1 => repeat (first | (with_reducible first | exact HI0.out | apply ga_.alloc | apply ga_.drewN | apply ga_.drew | apply ga_.tc_ | refine ga_.far ?_ NB0_162.out _ | refine ga_.far ?_ NB0_163.out _) | exact HI0.out)); (case side2 => repeat (first | (with_reducible first | exact HB.out | apply da_ | apply aa_ | apply ca_ | refine fa_ ?_ (ga_.ge HI0.out) | refine fa_ ?_ GE162.out | refine fa_ ?_ GE163.out) | exact HB.out)); rintro e w10 ⟨rfl, hi, hb, hk⟩; refine ⟨_, rfl, ?_⟩; have n0_ := ba_.mk (ra_.blk hk (g' := gb162) (o := .cells #[.int .i64 0, .int .i64 0, .slice none 0 0] 65 (0, 0)) (by (with_reducible repeat (first | refine ia_ ?_ _ | refine ma_ ?_ | refine ha_ ?_ _)); refine ie_ ?_ NB162_163.out _; (with_reducible repeat (first | refine ia_ ?_ _ | refine ma_ ?_ | refine ha_ ?_ _)); refine ie_ ?_ NB162_163.out _; (with_reducible repeat (first | refine ia_ ?_ _ | refine ma_ ?_ | refine ha_ ?_ _)); refine ie_ ?_ NB162_163.out _; (with_reducible repeat (first | refine ia_ ?_ _ | refine ma_ ?_ | refine ha_ ?_ _)); exact BK162.out) NB162_0.out Qj); have n1_ := ba_.mk (ra_.blk hk (g' := gb163) (o := .cells #[.int .i64 a1, .int .i64 a2, .slice none 0 0] 65 (0, 0)) (by (with_reducible repeat (first | refine ia_ ?_ _ | refine ma_ ?_ | refine ha_ ?_ _)); refine sc_ (cs := #[.int .i64 a1, .int .i64 a2, .slice none 0 0]) ?_ 2 _ rfl; (with_reducible repeat (first | refine ia_ ?_ _ | refine ma_ ?_ | refine ha_ ?_ _)); refine sc_ (cs := #[.int .i64 a1, .int .i64 0, .slice none 0 0]) ?_ 1 _ rfl; (with_reducible repeat (first | refine ia_ ?_ _ | refine ma_ ?_ | refine ha_ ?_ _)); refine sc_ (cs := #[.int .i64 0, .int .i64 0, .slice none 0 0]) ?_ 0 _ rfl; (with_reducible repeat (first | refine ia_ ?_ _ | refine ma_ ?_ | refine ha_ ?_ _)); exact BK163.out) NB163_0.out Qj); have n2_ := ba_.mk (ra_.trans X0 hk (.inl rfl)); have n3_ := ba_.mk (hb); have n4_ := ba_.mk (hi); clear BK162; clear BK163; clear HK; clear HB; clear HI0; have BK162 := n0_; have BK163 := n1_; have HK := n2_; have HB := n3_; have HI0 := n4_; clear n0_ n1_ n2_ n3_ n4_; (try clear hb); (try clear hb2); (try clear hk); (try clear hi)))
 go_loopg [8] k (fun kq v8 w' => ∃ (x8_1 : Int) (x1001_1 : Int) (x164002_1 : List (S100)) (u164002 : Value), v8 = .int .i64 x8_1 ∧ ba_ (eb_.l0 kq x8_1 s0_0 x1001_1 a1 a2 x164002_1 = some (r1, r2, r3, r4)) ∧ ba_ (kq ≤ k) ∧ ba_ (Kd.R k100 100 w' w.heap.size (fun _ => True) u164002 x164002_1) ∧ ba_ (w'.heap[gb162]? = some (.cells #[.int .i64 0, .int .i64 0, (.slice none 0 0)] 65 (0, 0))) ∧ ba_ (w'.heap[gb163]? = some (.cells #[.int .i64 a1, .int .i64 a2, u164002] 65 (0, 0))) ∧ ba_ (ga_ w0 w' g s0_0 x1001_1) ∧ ba_ (ra_ w w' g none) ∧ ba_ (Below w0.heap.size w0 w'))
 case atStart => exact ⟨(t164), (t165), (([] : List (S100))), (.slice none 0 0), Ql, H', ⟨Nat.le_refl _⟩, ⟨Q9⟩, ⟨by (with_reducible repeat (first | refine ia_ ?_ _ | refine ma_ ?_ | refine ha_ ?_ _)); exact BK162.out⟩, ⟨by (with_reducible repeat (first | refine ia_ ?_ _ | refine ma_ ?_ | refine ha_ ?_ _)); exact BK163.out⟩, ⟨Qaa⟩, ⟨X0⟩, ⟨Qab⟩⟩
 case round =>
  clear H'
  try clear p2
  try clear c3
  try clear c7
  try clear c8
  try clear hcz9_0
  try clear hcz9_1
  try clear hcz9_2
  try clear hfz9_0
  try clear hfz9_1
  try clear hfz9_2
  obtain ⟨x8_1, x1001_1, x164002_1, u164002, rfl, HA, HK1, HO_164002, BK162, BK163, HI0, HK, HB⟩ := hrel
  cases gk with
  | zero => exact absurd HA.out (by simp [eb_.l0])
  | succ k1 =>
   have H := HA.out
   clear HA
   simp only [eb_.l0] at H
   by_cases c11 : x8_1 > 0
   rotate_left
   ·rw [if_neg c11] at H
    have c11b0 : decide (0 < x8_1) = false := decide_eq_false c11
    clear c11
    simp only [Option.some.injEq, Prod.mk.injEq] at H
    obtain ⟨rfl, rfl, rfl, rfl⟩ := H
    have hnb19 := NB163_162.out
    have hnc19 := NB162_163.out
    have hnb20 := NB163_0.out
    have hnc20 := NB0_163.out
    have hcz21_0 : wr.cell? ⟨gb163, 0, none⟩ = some (.int .i64 a1) := (la_ BK163.out 0).trans rfl
    have hcz21_1 : wr.cell? ⟨gb163, 1, none⟩ = some (.int .i64 a2) := (la_ BK163.out 1).trans rfl
    have hcz21_2 : wr.cell? ⟨gb163, 2, none⟩ = some (u164002) := (la_ BK163.out 2).trans rfl
    have hfz21_0 := ja_ BK163.out 0
    have hfz21_1 := ja_ BK163.out 1
    have hfz21_2 := ja_ BK163.out 2
    have hnb22 := NB162_0.out
    have hnc22 := NB0_162.out
    have hcz23_0 : wr.cell? ⟨gb162, 0, none⟩ = some (.int .i64 0) := (la_ BK162.out 0).trans rfl
    have hcz23_1 : wr.cell? ⟨gb162, 1, none⟩ = some (.int .i64 0) := (la_ BK162.out 1).trans rfl
    have hcz23_2 : wr.cell? ⟨gb162, 2, none⟩ = some (.slice none 0 0) := (la_ BK162.out 2).trans rfl
    have hfz23_0 := ja_ BK162.out 0
    have hfz23_1 := ja_ BK162.out 1
    have hfz23_2 := ja_ BK162.out 2
    obtain ⟨Ao24, co24, eo24⟩ := Kd.td_ HO_164002.out
    subst eo24
    go_wp2
    refine bodyPost_ret (results_cell_row rfl _ _ gb162 65 #[.int .i64 a1, .int .i64 a2, .slice Ao24 x164002_1.length co24] (0, 0) _ rfl (by (with_reducible repeat (first | refine ia_ ?_ _ | refine ma_ ?_ | refine ha_ ?_ _)); refine sc_ (cs := #[.int .i64 a1, .int .i64 a2, .slice none 0 0]) ?_ 2 _ rfl; (with_reducible repeat (first | refine ia_ ?_ _ | refine ma_ ?_ | refine ha_ ?_ _)); refine sc_ (cs := #[.int .i64 a1, .int .i64 0, .slice none 0 0]) ?_ 1 _ rfl; (with_reducible repeat (first | refine ia_ ?_ _ | refine ma_ ?_ | refine ha_ ?_ _)); refine sc_ (cs := #[.int .i64 0, .int .i64 0, .slice none 0 0]) ?_ 0 _ rfl; (with_reducible repeat (first | refine ia_ ?_ _ | refine ma_ ?_ | refine ha_ ?_ _)); exact BK162.out) Tryz.underlying65 rfl Qb) rfl ?_
    exact ⟨_, Qu, by (with_reducible repeat (first | apply Kd.bb_ | apply Kd.cb_ | apply Kd.sb_)); exact Kd.fd_ (Kd.zf_ (p := ⟨gb162, 2, none⟩) (Kd.zf_ (p := ⟨gb162, 1, none⟩) (Kd.zf_ (p := ⟨gb162, 0, none⟩) (Kd.xe_ HO_164002.out BK162.out Qc) (fun _ hk => hk.2) (.int .i64 a1)) (fun _ hk => hk.2) (.int .i64 a2)) (fun _ hk => hk.2) (.slice Ao24 x164002_1.length co24)) (fun _ hk => trivial), Qaa, Qab, X0⟩
   rw [if_pos c11] at H
   have c11b0 : decide (0 < x8_1) = true := decide_eq_true c11
   clear c11
   obtain ⟨⟨t166, t167, t168, t169, t170, t171, t172⟩, A12, H⟩ := Qo H
   try dsimp only at H
   obtain ⟨c13, H⟩ := Qq H
   have LMc13 := ba_.mk c13
   clear c13
   obtain ⟨y173, hy173⟩ : ∃ y_ : List (S100), y_ = (x164002_1 ++ [(⟨t166, t167, t168, t169, t170, t171⟩ : S100)]) := ⟨_, rfl⟩
   replace H : (eb_.l0 k1 (wrap64 (x8_1 - 1)) s0_0 t172 a1 a2 y173) = some (r1, r2, r3, r4) := by first | (rw [hy173]; with_reducible exact H) | (have H2_ := (Option.bind_some _ _).symm.trans H; rw [hy173]; with_reducible exact H2_) | (have H2_ := (Option.bind_some _ _).symm.trans H; with_reducible exact H2_) | with_reducible exact H | (rw [hy173]; exact H) | exact H
   have Ny173 := ba_.mk hy173
   clear hy173
   have H' := ba_.mk H
   clear H
   try go_wp2
   have n0_ := ba_.mk (Kd.sb_ HO_164002.out)
   have n1_ := ba_.mk (ma_ BK162.out)
   have n2_ := ba_.mk (ma_ BK163.out)
   have n3_ := ba_.mk (ga_.drew HI0.out)
   have n4_ := ba_.mk (qb_ HK.out)
   have n5_ := ba_.mk (ca_ HB.out)
   clear HO_164002
   clear BK162
   clear BK163
   clear HI0
   clear HK
   clear HB
   have HO_164002 := n0_
   have BK162 := n1_
   have BK163 := n2_
   have HI0 := n3_
   have HK := n4_
   have HB := n5_
   clear n0_ n1_ n2_ n3_ n4_ n5_
   refine ei_ (n := 8) (S := fun w' => w'.cell? ⟨gb163, 0, none⟩ = some (.int .i64 a1) ∧ w'.cell? ⟨gb163, 1, none⟩ = some (.int .i64 a2) ∧ w'.cell? ⟨gb163, 2, none⟩ = some (u164002)) (ds := [7]) #[false, false, false, false, false, false, false, false] Qb rfl rfl ⟨(la_ BK163.out 0).trans rfl, (la_ BK163.out 1).trans rfl, (la_ BK163.out 2).trans rfl⟩ (fun hHeld => ?_); refine wh_ eb_.tab5 eb_.bits5 (fun HT_ HW_ => ?_)
   generalize wr.drew = w14 at HO_164002 BK162 BK163 HI0 HK HB hHeld ⊢
   refine qc_ (i := 0) (N := some 18) (v := ?_) (a' := ?_) #[true, false, false, false, false, false, false, false] rfl rfl Qn Qe (Or.inl ⟨by rfl, ?_⟩) ?_ ?_
   rotate_left
   ·exact Qg
   rotate_left
   ·exact Qd
   refine qc_ (i := 2) (N := some 20) (v := ?_) (a' := ?_) #[true, false, true, false, false, false, false, false] rfl rfl Qn Qe (Or.inl ⟨by rfl, ?_⟩) ?_ ?_
   rotate_left
   ·exact Qg
   rotate_left
   ·exact Qd
   refine wf_ (i := 1) (N := some 19) (v := ?_) (a' := ?_) #[true, true, true, false, false, false, false, false] rfl rfl (ve_ HT_.out HW_.out Qb) Qe (Or.inl ⟨by rfl, ?_⟩) hHeld ?_ ?_
   rotate_left
   ·rintro w' ⟨s0, s1, s2⟩
    go_simp
    with_reducible rfl
   rotate_left
   ·exact Qd
   refine one_ (i := 3) (N := some 21) #[true, true, true, true, false, false, false, false] rfl rfl Qz Qc (fun K hK => ?_)
   refine zm_ Tryz.func63 Qb rfl #[.pointer (some ⟨g, 0, none⟩), .int .i64 0] (by rfl) rfl rfl Qm ?_
   with_reducible refine (xa_.calls k1 g s0_0 x1001_1 0 t166 t167 t168 t169 t170 t171 t172 w0 _ ?side1 ?side2 A12.out).mono ?_
   (case side1 => repeat (first | (with_reducible first | exact HI0.out | apply ga_.alloc | apply ga_.drewN | apply ga_.drew | apply ga_.tc_ | refine ga_.far ?_ NB0_162.out _ | refine ga_.far ?_ NB0_163.out _) | exact HI0.out))
   (case side2 => repeat (first | (with_reducible first | exact HB.out | apply da_ | apply aa_ | apply ca_ | refine fa_ ?_ (ga_.ge HI0.out) | refine fa_ ?_ GE162.out | refine fa_ ?_ GE163.out) | exact HB.out))
   rintro e w15 ⟨rfl, hi, hb, hk⟩
   refine ⟨_, rfl, ?_⟩
   have n0_ := ba_.mk (Kd.fd_ (Kd.hj_ (ga_.apart (show ga_ w0 _ g s0_0 x1001_1 from by repeat (first | (with_reducible first | exact HI0.out | apply ga_.alloc | apply ga_.drewN | apply ga_.drew | apply ga_.tc_ | refine ga_.far ?_ NB0_162.out _ | refine ga_.far ?_ NB0_163.out _) | exact HI0.out)) (Qk HO_164002.out) Qc) hk (fun _ h => h.2)) (fun _ h => h.1))
   have n1_ := ba_.mk (ra_.blk hk (g' := gb162) (o := .cells #[.int .i64 0, .int .i64 0, .slice none 0 0] 65 (0, 0)) (Qf BK162.out) NB162_0.out Qj)
   have n2_ := ba_.mk (ra_.blk hk (g' := gb163) (o := .cells #[.int .i64 a1, .int .i64 a2, u164002] 65 (0, 0)) (Qf BK163.out) NB163_0.out Qj)
   have n3_ := ba_.mk (ra_.trans X0 hk (.inl rfl))
   have n4_ := ba_.mk (hb)
   have n5_ := ba_.mk (hi)
   clear HO_164002
   clear BK162
   clear BK163
   clear HK
   clear HB
   clear HI0
   have HO_164002 := n0_
   have BK162 := n1_
   have BK163 := n2_
   have HK := n3_
   have HB := n4_
   have HI0 := n5_
   clear n0_ n1_ n2_ n3_ n4_ n5_
   (try clear hb)
   (try clear hb2)
   (try clear hk)
   (try clear hi)
   refine hK.out _ _ ⟨(la_ BK163.out 0).trans rfl, (la_ BK163.out 1).trans rfl, (la_ BK163.out 2).trans rfl⟩ (fun hHeld => ?_)
   clear hK K
   refine ug_ (a' := ?_) ?_ ?_
   rotate_left
   ·show Act.put _ (some 21) _ = _
    simp only [Act.put, List.setIfInBounds_toArray, List.set_cons_zero, List.set_cons_succ, yb_, ac_]
    rfl
   refine one_ (i := 4) (N := some 22) #[true, true, true, true, true, false, false, false] rfl rfl Qz Qc (fun K hK => ?_)
   refine value_ (w1 := ?_) (v := ?_) (by rfl) rfl ?_ ?_
   rotate_left 2
   ·go_simp
    constructor
    ·rfl
    ·rfl
   refine hK.out _ _ ⟨(la_ (ha_ BK163.out _) 0).trans rfl, (la_ (ha_ BK163.out _) 1).trans rfl, (la_ (ha_ BK163.out _) 2).trans rfl⟩ (fun hHeld => ?_)
   clear hK K
   refine ug_ (a' := ?_) ?_ ?_
   rotate_left
   ·show Act.put _ (some 22) _ = _
    simp only [Act.put, List.setIfInBounds_toArray, List.set_cons_zero, List.set_cons_succ, yb_, ac_]
    rfl
   refine one_ (i := 5) (N := some 23) #[true, true, true, true, true, true, false, false] rfl rfl Qz Qc (fun K hK => ?_)
   refine Kd.ht_ k100 w.heap.size (by rfl) (.tmp 19) (.tmp 22) 63 100 (.agg #[(.int .i64 0), (.int .i64 0), (.int .i64 0), (.int .i64 0), (.int .i64 0), (.int .i64 0)]) 48 rfl Tryz.underlying63 sj1_ rfl Qc Qa u164002 x164002_1 (⟨t166, t167, t168, t169, t170, t171⟩ : S100) [.int .i64 t166, .int .i64 t167, .int .i64 t168, .int .i64 t169, .int .i64 t170, .int .i64 t171] (fun _ => True) (fun _ => False) rfl rfl ?aP (fun _ hk => hk.elim) ?aF ?aO (Below.refl _ _) ?aS ?aL ?_
   (case aP => exact tf1_ _ _ _ (⟨t166, t167, t168, t169, t170, t171⟩ : S100))
   (case aF => exact Xn)
   (case aO => exact (Qk HO_164002.out))
   (case aS => exact (kd_ (w := w) (g := g) (row := none) X0))
   (case aL => have := LMc13.out; omega)
   intro v174 w16 ho hb hg hat
   rw [← Ny173.out] at ho
   have n0_ := ba_.mk (ce_ (g := gb162) (o := .cells #[.int .i64 0, .int .i64 0, .slice none 0 0] 65 (0, 0)) (Qf BK162.out) hg (Kd.R_ne HO_164002.out BK162.out Qc))
   have n1_ := ba_.mk (ce_ (g := gb163) (o := .cells #[.int .i64 a1, .int .i64 a2, u164002] 65 (0, 0)) (Qf BK163.out) hg (Kd.R_ne HO_164002.out BK163.out Qc))
   have n2_ := ba_.mk (ga_.grown Qaa hg (ga_.el_ HI0.out HO_164002.out Qc))
   have n3_ := ba_.mk (gg_ Qab HL.out hb)
   have n4_ := ba_.mk (ra_.trans X0 (ra_.ki_ hg g) (Kd.zp_ HO_164002.out))
   have n5_ := ba_.mk (ho)
   clear BK162
   clear BK163
   clear HI0
   clear HB
   clear HK
   clear HO_164002
   have BK162 := n0_
   have BK163 := n1_
   have HI0 := n2_
   have HB := n3_
   have HK := n4_
   have HO175 := n5_
   clear n0_ n1_ n2_ n3_ n4_ n5_
   clear ho hb hg hat
   obtain ⟨Ao17, co17, eo17⟩ := Kd.td_ HO175.out
   (first | subst eo17 | (injection eo17 with f1_ f2_ f3_; have f4_ := f1_.symm; have f5_ := f3_.symm; clear f1_ f2_ f3_; subst f4_; subst f5_))
   refine hK.out _ _ ⟨(la_ BK163.out 0).trans rfl, (la_ BK163.out 1).trans rfl, (la_ BK163.out 2).trans rfl⟩ (fun hHeld => ?_)
   clear hK K
   refine ug_ (a' := ?_) ?_ ?_
   rotate_left
   ·show Act.put _ (some 23) _ = _
    simp only [Act.put, List.setIfInBounds_toArray, List.set_cons_zero, List.set_cons_succ, yb_, ac_]
    rfl
   refine qc_ (i := 6) (N := some 24) (v := ?_) (a' := ?_) #[true, true, true, true, true, true, true, false] rfl rfl Qn Qe (Or.inl ⟨by rfl, ?_⟩) ?_ ?_
   rotate_left
   ·exact Qg
   rotate_left
   ·exact Qd
   refine an_ (i := 7) (N := none) #[true, true, true, true, true, true, true, true] rfl rfl Qz Qc (fun K hK => ?_)
   have hs18 : w16.cell? ⟨gb163, 2, none⟩ = some (u164002) := (la_ BK163.out 2).trans rfl
   have hfs18 := ja_ BK163.out 2
   have hns18_0 := NB162_163.out
   have hms18_0 := NB163_162.out
   refine em_ (w1 := ?_) (by rfl) rfl ?_ ?_
   rotate_left
   ·go_simp
    rfl
   refine hK.out _ _ ?_
   clear hK K
   refine yk_ Xt ?_
   try go_wp2
   go_roundg k1
   case measure => have := HK1.out; omega
   case rel => exact ⟨(wrap64 (x8_1 - 1)), (t172), (y173), (.slice Ao17 y173.length co17), Ql, H', ⟨Xf⟩, ⟨by (with_reducible repeat (first | apply Kd.bb_ | apply Kd.cb_ | apply Kd.sb_)); exact Kd.fd_ (Kd.zf_ (p := ⟨gb163, 2, none⟩) (Kd.xe_ HO175.out BK163.out Qc) (fun _ hk => hk.2) (.slice Ao17 y173.length co17)) (fun _ hk => trivial)⟩, ⟨by (with_reducible repeat (first | refine ia_ ?_ _ | refine ma_ ?_ | refine ha_ ?_ _)); refine ie_ ?_ NB162_163.out _; (with_reducible repeat (first | refine ia_ ?_ _ | refine ma_ ?_ | refine ha_ ?_ _)); exact BK162.out⟩, ⟨by (with_reducible repeat (first | refine ia_ ?_ _ | refine ma_ ?_ | refine ha_ ?_ _)); refine sc_ (cs := #[.int .i64 a1, .int .i64 a2, u164002]) ?_ 2 _ rfl; (with_reducible repeat (first | refine ia_ ?_ _ | refine ma_ ?_ | refine ha_ ?_ _)); exact BK163.out⟩, ⟨Qaa⟩, ⟨X0⟩, ⟨Qab⟩⟩
def ab_.j0 : Nat → Bool → Int → Int → Int → Int → Int → Int → Option (Bool)
 | 0, _, _, _, _, _, _, _ => none
 | k + 1, x30, x177000, x177001, x177002, x177003, x177004, x177005 => if x30 = true then (some false) else (if x177000 = 1 then (if x177004 = 0 then (some (x177005 == 0)) else (some false)) else (if x177000 = 2 then (if x177004 ≥ 2 then (if x177004 ≤ 5 then (if x177005 ≥ 0 then (some (decide (x177005 < x177004))) else (some false)) else (some false)) else (some false)) else (some false)))
def ab_.f (k : Nat) (a0_0 : Int) (a0_1 : Int) (a0_2 : Int) (a0_3 : Int) (a0_4 : Int) (a0_5 : Int) : Option (Bool) := if a0_1 < 1 then (ab_.j0 k true a0_0 a0_1 a0_2 a0_3 a0_4 a0_5) else (if a0_1 > 40 then (ab_.j0 k true a0_0 a0_1 a0_2 a0_3 a0_4 a0_5) else (if a0_2 < 0 then (ab_.j0 k true a0_0 a0_1 a0_2 a0_3 a0_4 a0_5) else (if a0_2 ≥ 16 then (ab_.j0 k true a0_0 a0_1 a0_2 a0_3 a0_4 a0_5) else (if a0_3 < 0 then (ab_.j0 k true a0_0 a0_1 a0_2 a0_3 a0_4 a0_5) else (ab_.j0 k (decide (a0_3 ≥ 6)) a0_0 a0_1 a0_2 a0_3 a0_4 a0_5)))))
theorem ab_.nd_ : ∀ k, (∀ y0 y1 y2 y3 y4 y5 y6, LeO (ab_.j0 k y0 y1 y2 y3 y4 y5 y6) (ab_.j0 (k + 1) y0 y1 y2 y3 y4 y5 y6))
 | 0 => fun _ _ _ _ _ _ _ r h => by simp [ab_.j0] at h
 | k + 1 => by
  have ih0 := ab_.nd_ k
  intro y0 y1 y2 y3 y4 y5 y6
  unfold ab_.j0
  exact Qr
theorem ab_.mono : ∀ a0 a1 a2 a3 a4 a5 k, LeO (ab_.f k a0 a1 a2 a3 a4 a5) (ab_.f (k + 1) a0 a1 a2 a3 a4 a5) := by
 intro a0 a1 a2 a3 a4 a5 k
 have ih0 := ab_.nd_ k
 unfold ab_.f
 exact Qr
set_option maxHeartbeats 8000000 in
set_option maxRecDepth 100000 in
theorem ab_.calls (k : Nat) (a0_0 : Int) (a0_1 : Int) (a0_2 : Int) (a0_3 : Int) (a0_4 : Int) (a0_5 : Int) (r : Bool) (w : World) (h : ab_.f k a0_0 a0_1 a0_2 a0_3 a0_4 a0_5 = some r) :
  Calls Tryz.prog 92 #[.agg #[.int .i64 a0_0, .int .i64 a0_1, .int .i64 a0_2, .int .i64 a0_3, .int .i64 a0_4, .int .i64 a0_5]] w fun e w' => e = .returned (.bool r) ∧ Below w.heap.size w w' := by
 have hu100 := Tryz.underlying100
 have HB := ba_.mk (Below.refl w.heap.size w)
 have H : (if a0_1 < 1 then (ab_.j0 k true a0_0 a0_1 a0_2 a0_3 a0_4 a0_5) else (if a0_1 > 40 then (ab_.j0 k true a0_0 a0_1 a0_2 a0_3 a0_4 a0_5) else (if a0_2 < 0 then (ab_.j0 k true a0_0 a0_1 a0_2 a0_3 a0_4 a0_5) else (if a0_2 ≥ 16 then (ab_.j0 k true a0_0 a0_1 a0_2 a0_3 a0_4 a0_5) else (if a0_3 < 0 then (ab_.j0 k true a0_0 a0_1 a0_2 a0_3 a0_4 a0_5) else (ab_.j0 k (decide (a0_3 ≥ 6)) a0_0 a0_1 a0_2 a0_3 a0_4 a0_5)))))) = some r := h
 clear h
 have HC2 := ba_.mk H
 clear H
 go_enter Tryz.func92, Tryz.ntmps92
 go_upto_region 1 with (first | ((with_reducible refine ld_ (N := 1) rfl ?_); refine de_ ?hg (N := 1) ?hd (cs := #[.int .i64 a0_0, .int .i64 a0_1, .int .i64 a0_2, .int .i64 a0_3, .int .i64 a0_4, .int .i64 a0_5]) (t := 100) ?hr ?_; (case hd => rfl); (case hg => rfl); (case hr => exact Qt); intro gb176 hg w3 hbox hb; have n0_ := ba_.mk (hb_ Qh hb); have n1_ := ba_.mk (hbox); have n2_ := ba_.mk ((by rw [hg]; exact (pb_ Qh) : w.heap.size ≤ gb176)); have n3_ := ba_.mk ((by rw [hg]; exact (pb_ Qh) : w.heap.size ≤ gb176)); clear HB; have HB := n0_; have BK176 := n1_; have GW176 := n2_; have GE176 := n3_; clear n0_ n1_ n2_ n3_; clear hb hbox hg))
 (try simp only [Act.put, List.setIfInBounds_toArray, List.set_cons_zero, List.set_cons_succ])
 go_cut [30] (fun v30 wc => ∃ (kq : Nat) (x30_1 : Bool), v30 = .bool x30_1 ∧ ba_ (ab_.j0 kq x30_1 a0_0 a0_1 a0_2 a0_3 a0_4 a0_5 = some r) ∧ ba_ (kq ≤ k) ∧ ba_ (wc.heap[gb176]? = some (.cells #[.int .i64 a0_0, .int .i64 a0_1, .int .i64 a0_2, .int .i64 a0_3, .int .i64 a0_4, .int .i64 a0_5] 100 (0, 0))) ∧ ba_ (Below w.heap.size w wc))
 case first =>
  have H := HC2.out
  clear HC2
  by_cases c4 : a0_1 < 1
  ·rw [if_pos c4] at H
   have c4b0 := decide_eq_true c4
   clear c4
   (first | rw [c4b0] | (simp only [yb_, ac_]; rw [c4b0]) | skip)
   have H' := ba_.mk H
   clear H
   have hcz5_0 : w3.cell? ⟨gb176, 0, none⟩ = some (.int .i64 a0_0) := (la_ BK176.out 0).trans rfl
   have hcz5_1 : w3.cell? ⟨gb176, 1, none⟩ = some (.int .i64 a0_1) := (la_ BK176.out 1).trans rfl
   have hcz5_2 : w3.cell? ⟨gb176, 2, none⟩ = some (.int .i64 a0_2) := (la_ BK176.out 2).trans rfl
   have hcz5_3 : w3.cell? ⟨gb176, 3, none⟩ = some (.int .i64 a0_3) := (la_ BK176.out 3).trans rfl
   have hcz5_4 : w3.cell? ⟨gb176, 4, none⟩ = some (.int .i64 a0_4) := (la_ BK176.out 4).trans rfl
   have hcz5_5 : w3.cell? ⟨gb176, 5, none⟩ = some (.int .i64 a0_5) := (la_ BK176.out 5).trans rfl
   have hfz5_0 := ja_ BK176.out 0
   have hfz5_1 := ja_ BK176.out 1
   have hfz5_2 := ja_ BK176.out 2
   have hfz5_3 := ja_ BK176.out 3
   have hfz5_4 := ja_ BK176.out 4
   have hfz5_5 := ja_ BK176.out 5
   go_wp2
   go_meet
   case rel => exact Yl
  rw [if_neg c4] at H
  have c4b0 := decide_eq_false c4
  clear c4
  (first | rw [c4b0] | (simp only [yb_, ac_]; rw [c4b0]) | skip)
  by_cases c6 : a0_1 > 40
  ·rw [if_pos c6] at H
   have c6b0 : decide (40 < a0_1) = true := decide_eq_true c6
   clear c6
   have H' := ba_.mk H
   clear H
   have hcz7_0 : w3.cell? ⟨gb176, 0, none⟩ = some (.int .i64 a0_0) := (la_ BK176.out 0).trans rfl
   have hcz7_1 : w3.cell? ⟨gb176, 1, none⟩ = some (.int .i64 a0_1) := (la_ BK176.out 1).trans rfl
   have hcz7_2 : w3.cell? ⟨gb176, 2, none⟩ = some (.int .i64 a0_2) := (la_ BK176.out 2).trans rfl
   have hcz7_3 : w3.cell? ⟨gb176, 3, none⟩ = some (.int .i64 a0_3) := (la_ BK176.out 3).trans rfl
   have hcz7_4 : w3.cell? ⟨gb176, 4, none⟩ = some (.int .i64 a0_4) := (la_ BK176.out 4).trans rfl
   have hcz7_5 : w3.cell? ⟨gb176, 5, none⟩ = some (.int .i64 a0_5) := (la_ BK176.out 5).trans rfl
   have hfz7_0 := ja_ BK176.out 0
   have hfz7_1 := ja_ BK176.out 1
   have hfz7_2 := ja_ BK176.out 2
   have hfz7_3 := ja_ BK176.out 3
   have hfz7_4 := ja_ BK176.out 4
   have hfz7_5 := ja_ BK176.out 5
   go_wp2
   go_meet
   case rel => exact Yl
  rw [if_neg c6] at H
  have c6b0 : decide (40 < a0_1) = false := decide_eq_false c6
  clear c6
  by_cases c8 : a0_2 < 0
  ·rw [if_pos c8] at H
   have c8b0 := decide_eq_true c8
   clear c8
   have H' := ba_.mk H
   clear H
   have hcz9_0 : w3.cell? ⟨gb176, 0, none⟩ = some (.int .i64 a0_0) := (la_ BK176.out 0).trans rfl
   have hcz9_1 : w3.cell? ⟨gb176, 1, none⟩ = some (.int .i64 a0_1) := (la_ BK176.out 1).trans rfl
   have hcz9_2 : w3.cell? ⟨gb176, 2, none⟩ = some (.int .i64 a0_2) := (la_ BK176.out 2).trans rfl
   have hcz9_3 : w3.cell? ⟨gb176, 3, none⟩ = some (.int .i64 a0_3) := (la_ BK176.out 3).trans rfl
   have hcz9_4 : w3.cell? ⟨gb176, 4, none⟩ = some (.int .i64 a0_4) := (la_ BK176.out 4).trans rfl
   have hcz9_5 : w3.cell? ⟨gb176, 5, none⟩ = some (.int .i64 a0_5) := (la_ BK176.out 5).trans rfl
   have hfz9_0 := ja_ BK176.out 0
   have hfz9_1 := ja_ BK176.out 1
   have hfz9_2 := ja_ BK176.out 2
   have hfz9_3 := ja_ BK176.out 3
   have hfz9_4 := ja_ BK176.out 4
   have hfz9_5 := ja_ BK176.out 5
   go_wp2
   go_meet
   case rel => exact Yl
  rw [if_neg c8] at H
  have c8b0 := decide_eq_false c8
  clear c8
  by_cases c10 : a0_2 ≥ 16
  ·rw [if_pos c10] at H
   have c10b0 : decide (16 ≤ a0_2) = true := decide_eq_true c10
   clear c10
   have H' := ba_.mk H
   clear H
   have hcz11_0 : w3.cell? ⟨gb176, 0, none⟩ = some (.int .i64 a0_0) := (la_ BK176.out 0).trans rfl
   have hcz11_1 : w3.cell? ⟨gb176, 1, none⟩ = some (.int .i64 a0_1) := (la_ BK176.out 1).trans rfl
   have hcz11_2 : w3.cell? ⟨gb176, 2, none⟩ = some (.int .i64 a0_2) := (la_ BK176.out 2).trans rfl
   have hcz11_3 : w3.cell? ⟨gb176, 3, none⟩ = some (.int .i64 a0_3) := (la_ BK176.out 3).trans rfl
   have hcz11_4 : w3.cell? ⟨gb176, 4, none⟩ = some (.int .i64 a0_4) := (la_ BK176.out 4).trans rfl
   have hcz11_5 : w3.cell? ⟨gb176, 5, none⟩ = some (.int .i64 a0_5) := (la_ BK176.out 5).trans rfl
   have hfz11_0 := ja_ BK176.out 0
   have hfz11_1 := ja_ BK176.out 1
   have hfz11_2 := ja_ BK176.out 2
   have hfz11_3 := ja_ BK176.out 3
   have hfz11_4 := ja_ BK176.out 4
   have hfz11_5 := ja_ BK176.out 5
   go_wp2
   go_meet
   case rel => exact Yl
  rw [if_neg c10] at H
  have c10b0 : decide (16 ≤ a0_2) = false := decide_eq_false c10
  clear c10
  by_cases c12 : a0_3 < 0
  ·rw [if_pos c12] at H
   have c12b0 := decide_eq_true c12
   clear c12
   have H' := ba_.mk H
   clear H
   have hcz13_0 : w3.cell? ⟨gb176, 0, none⟩ = some (.int .i64 a0_0) := (la_ BK176.out 0).trans rfl
   have hcz13_1 : w3.cell? ⟨gb176, 1, none⟩ = some (.int .i64 a0_1) := (la_ BK176.out 1).trans rfl
   have hcz13_2 : w3.cell? ⟨gb176, 2, none⟩ = some (.int .i64 a0_2) := (la_ BK176.out 2).trans rfl
   have hcz13_3 : w3.cell? ⟨gb176, 3, none⟩ = some (.int .i64 a0_3) := (la_ BK176.out 3).trans rfl
   have hcz13_4 : w3.cell? ⟨gb176, 4, none⟩ = some (.int .i64 a0_4) := (la_ BK176.out 4).trans rfl
   have hcz13_5 : w3.cell? ⟨gb176, 5, none⟩ = some (.int .i64 a0_5) := (la_ BK176.out 5).trans rfl
   have hfz13_0 := ja_ BK176.out 0
   have hfz13_1 := ja_ BK176.out 1
   have hfz13_2 := ja_ BK176.out 2
   have hfz13_3 := ja_ BK176.out 3
   have hfz13_4 := ja_ BK176.out 4
   have hfz13_5 := ja_ BK176.out 5
   go_wp2
   go_meet
   case rel => exact Yl
  rw [if_neg c12] at H
  have c12b0 := decide_eq_false c12
  clear c12
  have H' := ba_.mk H
  clear H
  have hcz14_0 : w3.cell? ⟨gb176, 0, none⟩ = some (.int .i64 a0_0) := (la_ BK176.out 0).trans rfl
  have hcz14_1 : w3.cell? ⟨gb176, 1, none⟩ = some (.int .i64 a0_1) := (la_ BK176.out 1).trans rfl
  have hcz14_2 : w3.cell? ⟨gb176, 2, none⟩ = some (.int .i64 a0_2) := (la_ BK176.out 2).trans rfl
  have hcz14_3 : w3.cell? ⟨gb176, 3, none⟩ = some (.int .i64 a0_3) := (la_ BK176.out 3).trans rfl
  have hcz14_4 : w3.cell? ⟨gb176, 4, none⟩ = some (.int .i64 a0_4) := (la_ BK176.out 4).trans rfl
  have hcz14_5 : w3.cell? ⟨gb176, 5, none⟩ = some (.int .i64 a0_5) := (la_ BK176.out 5).trans rfl
  have hfz14_0 := ja_ BK176.out 0
  have hfz14_1 := ja_ BK176.out 1
  have hfz14_2 := ja_ BK176.out 2
  have hfz14_3 := ja_ BK176.out 3
  have hfz14_4 := ja_ BK176.out 4
  have hfz14_5 := ja_ BK176.out 5
  go_wp2
  go_meet
  case rel => exact ⟨_, (decide (a0_3 ≥ 6)), Ql, H', ⟨Xu⟩, ⟨by (with_reducible repeat (first | refine ia_ ?_ _ | refine ma_ ?_ | refine ha_ ?_ _)); exact BK176.out⟩, ⟨Xv⟩⟩
 case rest =>
  clear HC2
  try clear c1
  try clear p2
  try clear c4
  try clear c4b0
  try clear c6
  try clear c6b0
  try clear c8
  try clear c8b0
  try clear c9
  try clear c10
  try clear c10b0
  try clear c12
  try clear c12b0
  try clear hcz11_0
  try clear hcz11_1
  try clear hcz11_2
  try clear hcz11_3
  try clear hcz11_4
  try clear hcz11_5
  try clear hcz13_0
  try clear hcz13_1
  try clear hcz13_2
  try clear hcz13_3
  try clear hcz13_4
  try clear hcz13_5
  try clear hcz14_0
  try clear hcz14_1
  try clear hcz14_2
  try clear hcz14_3
  try clear hcz14_4
  try clear hcz14_5
  try clear hcz5_0
  try clear hcz5_1
  try clear hcz5_2
  try clear hcz5_3
  try clear hcz5_4
  try clear hcz5_5
  try clear hcz7_0
  try clear hcz7_1
  try clear hcz7_2
  try clear hcz7_3
  try clear hcz7_4
  try clear hcz7_5
  try clear hcz9_0
  try clear hcz9_1
  try clear hcz9_2
  try clear hcz9_3
  try clear hcz9_4
  try clear hcz9_5
  try clear hfz11_0
  try clear hfz11_1
  try clear hfz11_2
  try clear hfz11_3
  try clear hfz11_4
  try clear hfz11_5
  try clear hfz13_0
  try clear hfz13_1
  try clear hfz13_2
  try clear hfz13_3
  try clear hfz13_4
  try clear hfz13_5
  try clear hfz14_0
  try clear hfz14_1
  try clear hfz14_2
  try clear hfz14_3
  try clear hfz14_4
  try clear hfz14_5
  try clear hfz5_0
  try clear hfz5_1
  try clear hfz5_2
  try clear hfz5_3
  try clear hfz5_4
  try clear hfz5_5
  try clear hfz7_0
  try clear hfz7_1
  try clear hfz7_2
  try clear hfz7_3
  try clear hfz7_4
  try clear hfz7_5
  try clear hfz9_0
  try clear hfz9_1
  try clear hfz9_2
  try clear hfz9_3
  try clear hfz9_4
  try clear hfz9_5
  obtain ⟨kq, x30_1, rfl, HA, HJ1, BK176, HB⟩ := hcut
  cases kq with
  | zero => exact absurd HA.out (by simp [ab_.j0])
  | succ kj1 =>
   have H := HA.out
   clear HA
   simp only [ab_.j0] at H
   by_cases c15 : x30_1 = true
   ·subst c15
    have H1 : (some false) = some r := by rw [if_pos rfl] at H; exact H
    clear H
    have H := H1
    clear H1
    obtain rfl := Option.some.inj H
    go_wp2
    go_ret
    exact ⟨Qu, Xv⟩
   replace c15 := Bool.eq_false_iff.mpr c15
   subst c15
   have H1 : (if a0_0 = 1 then (if a0_4 = 0 then (some (a0_5 == 0)) else (some false)) else (if a0_0 = 2 then (if a0_4 ≥ 2 then (if a0_4 ≤ 5 then (if a0_5 ≥ 0 then (some (decide (a0_5 < a0_4))) else (some false)) else (some false)) else (some false)) else (some false))) = some r := by rw [if_neg (show ¬ (false = true) by decide)] at H; exact H
   clear H
   have H := H1
   clear H1
   by_cases c16 : a0_0 = 1
   ·rw [if_pos c16] at H
    have c16b0 : (a0_0 == 1) = true := beq_iff_eq.mpr c16
    have c16b1 : (a0_0 != 1) = false := bne_eq_false_iff_eq.mpr c16
    clear c16
    by_cases c17 : a0_4 = 0
    rotate_left
    ·rw [if_neg c17] at H
     have c17b0 : (a0_4 == 0) = false := beq_eq_false_iff_ne.mpr c17
     have c17b1 : (a0_4 != 0) = true := bne_iff_ne.mpr c17
     obtain rfl := Option.some.inj H
     have hcz19_0 : wc.cell? ⟨gb176, 0, none⟩ = some (.int .i64 a0_0) := (la_ BK176.out 0).trans rfl
     have hcz19_1 : wc.cell? ⟨gb176, 1, none⟩ = some (.int .i64 a0_1) := (la_ BK176.out 1).trans rfl
     have hcz19_2 : wc.cell? ⟨gb176, 2, none⟩ = some (.int .i64 a0_2) := (la_ BK176.out 2).trans rfl
     have hcz19_3 : wc.cell? ⟨gb176, 3, none⟩ = some (.int .i64 a0_3) := (la_ BK176.out 3).trans rfl
     have hcz19_4 : wc.cell? ⟨gb176, 4, none⟩ = some (.int .i64 a0_4) := (la_ BK176.out 4).trans rfl
     have hcz19_5 : wc.cell? ⟨gb176, 5, none⟩ = some (.int .i64 a0_5) := (la_ BK176.out 5).trans rfl
     have hfz19_0 := ja_ BK176.out 0
     have hfz19_1 := ja_ BK176.out 1
     have hfz19_2 := ja_ BK176.out 2
     have hfz19_3 := ja_ BK176.out 3
     have hfz19_4 := ja_ BK176.out 4
     have hfz19_5 := ja_ BK176.out 5
     go_wp2
     go_ret
     exact ⟨Qu, Xv⟩
    rw [if_pos c17] at H
    have c17b0 : (a0_4 == 0) = true := beq_iff_eq.mpr c17
    have c17b1 : (a0_4 != 0) = false := bne_eq_false_iff_eq.mpr c17
    clear c17
    obtain rfl := Option.some.inj H
    have hcz18_0 : wc.cell? ⟨gb176, 0, none⟩ = some (.int .i64 a0_0) := (la_ BK176.out 0).trans rfl
    have hcz18_1 : wc.cell? ⟨gb176, 1, none⟩ = some (.int .i64 a0_1) := (la_ BK176.out 1).trans rfl
    have hcz18_2 : wc.cell? ⟨gb176, 2, none⟩ = some (.int .i64 a0_2) := (la_ BK176.out 2).trans rfl
    have hcz18_3 : wc.cell? ⟨gb176, 3, none⟩ = some (.int .i64 a0_3) := (la_ BK176.out 3).trans rfl
    have hcz18_4 : wc.cell? ⟨gb176, 4, none⟩ = some (.int .i64 a0_4) := (la_ BK176.out 4).trans rfl
    have hcz18_5 : wc.cell? ⟨gb176, 5, none⟩ = some (.int .i64 a0_5) := (la_ BK176.out 5).trans rfl
    have hfz18_0 := ja_ BK176.out 0
    have hfz18_1 := ja_ BK176.out 1
    have hfz18_2 := ja_ BK176.out 2
    have hfz18_3 := ja_ BK176.out 3
    have hfz18_4 := ja_ BK176.out 4
    have hfz18_5 := ja_ BK176.out 5
    go_wp2
    go_ret
    exact ⟨Qu, Xv⟩
   rw [if_neg c16] at H
   have c16b0 : (a0_0 == 1) = false := beq_eq_false_iff_ne.mpr c16
   have c16b1 : (a0_0 != 1) = true := bne_iff_ne.mpr c16
   by_cases c20 : a0_0 = 2
   rotate_left
   ·rw [if_neg c20] at H
    have c20b0 : (a0_0 == 2) = false := beq_eq_false_iff_ne.mpr c20
    have c20b1 : (a0_0 != 2) = true := bne_iff_ne.mpr c20
    obtain rfl := Option.some.inj H
    have hcz28_0 : wc.cell? ⟨gb176, 0, none⟩ = some (.int .i64 a0_0) := (la_ BK176.out 0).trans rfl
    have hcz28_1 : wc.cell? ⟨gb176, 1, none⟩ = some (.int .i64 a0_1) := (la_ BK176.out 1).trans rfl
    have hcz28_2 : wc.cell? ⟨gb176, 2, none⟩ = some (.int .i64 a0_2) := (la_ BK176.out 2).trans rfl
    have hcz28_3 : wc.cell? ⟨gb176, 3, none⟩ = some (.int .i64 a0_3) := (la_ BK176.out 3).trans rfl
    have hcz28_4 : wc.cell? ⟨gb176, 4, none⟩ = some (.int .i64 a0_4) := (la_ BK176.out 4).trans rfl
    have hcz28_5 : wc.cell? ⟨gb176, 5, none⟩ = some (.int .i64 a0_5) := (la_ BK176.out 5).trans rfl
    have hfz28_0 := ja_ BK176.out 0
    have hfz28_1 := ja_ BK176.out 1
    have hfz28_2 := ja_ BK176.out 2
    have hfz28_3 := ja_ BK176.out 3
    have hfz28_4 := ja_ BK176.out 4
    have hfz28_5 := ja_ BK176.out 5
    go_wp2
    go_ret
    exact ⟨Qu, Xv⟩
   rw [if_pos c20] at H
   have c20b0 : (a0_0 == 2) = true := beq_iff_eq.mpr c20
   have c20b1 : (a0_0 != 2) = false := bne_eq_false_iff_eq.mpr c20
   clear c20
   by_cases c21 : a0_4 ≥ 2
   rotate_left
   ·rw [if_neg c21] at H
    have c21b0 : decide (2 ≤ a0_4) = false := decide_eq_false c21
    clear c21
    obtain rfl := Option.some.inj H
    have hcz27_0 : wc.cell? ⟨gb176, 0, none⟩ = some (.int .i64 a0_0) := (la_ BK176.out 0).trans rfl
    have hcz27_1 : wc.cell? ⟨gb176, 1, none⟩ = some (.int .i64 a0_1) := (la_ BK176.out 1).trans rfl
    have hcz27_2 : wc.cell? ⟨gb176, 2, none⟩ = some (.int .i64 a0_2) := (la_ BK176.out 2).trans rfl
    have hcz27_3 : wc.cell? ⟨gb176, 3, none⟩ = some (.int .i64 a0_3) := (la_ BK176.out 3).trans rfl
    have hcz27_4 : wc.cell? ⟨gb176, 4, none⟩ = some (.int .i64 a0_4) := (la_ BK176.out 4).trans rfl
    have hcz27_5 : wc.cell? ⟨gb176, 5, none⟩ = some (.int .i64 a0_5) := (la_ BK176.out 5).trans rfl
    have hfz27_0 := ja_ BK176.out 0
    have hfz27_1 := ja_ BK176.out 1
    have hfz27_2 := ja_ BK176.out 2
    have hfz27_3 := ja_ BK176.out 3
    have hfz27_4 := ja_ BK176.out 4
    have hfz27_5 := ja_ BK176.out 5
    go_wp2
    go_ret
    exact ⟨Qu, Xv⟩
   rw [if_pos c21] at H
   have c21b0 : decide (2 ≤ a0_4) = true := decide_eq_true c21
   clear c21
   by_cases c22 : a0_4 ≤ 5
   rotate_left
   ·rw [if_neg c22] at H
    have c22b0 := decide_eq_false c22
    clear c22
    obtain rfl := Option.some.inj H
    have hcz26_0 : wc.cell? ⟨gb176, 0, none⟩ = some (.int .i64 a0_0) := (la_ BK176.out 0).trans rfl
    have hcz26_1 : wc.cell? ⟨gb176, 1, none⟩ = some (.int .i64 a0_1) := (la_ BK176.out 1).trans rfl
    have hcz26_2 : wc.cell? ⟨gb176, 2, none⟩ = some (.int .i64 a0_2) := (la_ BK176.out 2).trans rfl
    have hcz26_3 : wc.cell? ⟨gb176, 3, none⟩ = some (.int .i64 a0_3) := (la_ BK176.out 3).trans rfl
    have hcz26_4 : wc.cell? ⟨gb176, 4, none⟩ = some (.int .i64 a0_4) := (la_ BK176.out 4).trans rfl
    have hcz26_5 : wc.cell? ⟨gb176, 5, none⟩ = some (.int .i64 a0_5) := (la_ BK176.out 5).trans rfl
    have hfz26_0 := ja_ BK176.out 0
    have hfz26_1 := ja_ BK176.out 1
    have hfz26_2 := ja_ BK176.out 2
    have hfz26_3 := ja_ BK176.out 3
    have hfz26_4 := ja_ BK176.out 4
    have hfz26_5 := ja_ BK176.out 5
    go_wp2
    go_ret
    exact ⟨Qu, Xv⟩
   rw [if_pos c22] at H
   have c22b0 := decide_eq_true c22
   clear c22
   by_cases c23 : a0_5 ≥ 0
   ·rw [if_pos c23] at H
    have c23b0 : decide (0 ≤ a0_5) = true := decide_eq_true c23
    clear c23
    obtain rfl := Option.some.inj H
    have hcz24_0 : wc.cell? ⟨gb176, 0, none⟩ = some (.int .i64 a0_0) := (la_ BK176.out 0).trans rfl
    have hcz24_1 : wc.cell? ⟨gb176, 1, none⟩ = some (.int .i64 a0_1) := (la_ BK176.out 1).trans rfl
    have hcz24_2 : wc.cell? ⟨gb176, 2, none⟩ = some (.int .i64 a0_2) := (la_ BK176.out 2).trans rfl
    have hcz24_3 : wc.cell? ⟨gb176, 3, none⟩ = some (.int .i64 a0_3) := (la_ BK176.out 3).trans rfl
    have hcz24_4 : wc.cell? ⟨gb176, 4, none⟩ = some (.int .i64 a0_4) := (la_ BK176.out 4).trans rfl
    have hcz24_5 : wc.cell? ⟨gb176, 5, none⟩ = some (.int .i64 a0_5) := (la_ BK176.out 5).trans rfl
    have hfz24_0 := ja_ BK176.out 0
    have hfz24_1 := ja_ BK176.out 1
    have hfz24_2 := ja_ BK176.out 2
    have hfz24_3 := ja_ BK176.out 3
    have hfz24_4 := ja_ BK176.out 4
    have hfz24_5 := ja_ BK176.out 5
    go_wp2
    go_ret
    exact ⟨Qu, Xv⟩
   rw [if_neg c23] at H
   have c23b0 : decide (0 ≤ a0_5) = false := decide_eq_false c23
   clear c23
   obtain rfl := Option.some.inj H
   have hcz25_0 : wc.cell? ⟨gb176, 0, none⟩ = some (.int .i64 a0_0) := (la_ BK176.out 0).trans rfl
   have hcz25_1 : wc.cell? ⟨gb176, 1, none⟩ = some (.int .i64 a0_1) := (la_ BK176.out 1).trans rfl
   have hcz25_2 : wc.cell? ⟨gb176, 2, none⟩ = some (.int .i64 a0_2) := (la_ BK176.out 2).trans rfl
   have hcz25_3 : wc.cell? ⟨gb176, 3, none⟩ = some (.int .i64 a0_3) := (la_ BK176.out 3).trans rfl
   have hcz25_4 : wc.cell? ⟨gb176, 4, none⟩ = some (.int .i64 a0_4) := (la_ BK176.out 4).trans rfl
   have hcz25_5 : wc.cell? ⟨gb176, 5, none⟩ = some (.int .i64 a0_5) := (la_ BK176.out 5).trans rfl
   have hfz25_0 := ja_ BK176.out 0
   have hfz25_1 := ja_ BK176.out 1
   have hfz25_2 := ja_ BK176.out 2
   have hfz25_3 := ja_ BK176.out 3
   have hfz25_4 := ja_ BK176.out 4
   have hfz25_5 := ja_ BK176.out 5
   go_wp2
   go_ret
   exact ⟨Qu, Xv⟩
mutual
def sa_.j0 : Nat → Bool → Int → Int → List (S100) → Option (Bool)
 | 0, _, _, _, _ => none
 | k + 1, x34, x178000, x178001, x178002 => if x34 = true then (some false) else (sa_.l0 k 0 0 x178000 x178001 x178002)
def sa_.l0 : Nat → Int → Int → Int → Int → List (S100) → Option (Bool)
 | 0, _, _, _, _, _ => none
 | k + 1, x3, x4, x178000, x178001, x178002 => if x4 < (x178002.length : Int) then (if 0 ≤ x4 then ((ab_.f k ((hd_ x178002 x4).f0) ((hd_ x178002 x4).f1) ((hd_ x178002 x4).f2) ((hd_ x178002 x4).f3) ((hd_ x178002 x4).f4) ((hd_ x178002 x4).f5)).bind fun t179 => (if t179 = true then (sa_.l0 k (wrap64 (x3 + ((hd_ x178002 x4).f1))) (wrap64 (x4 + 1)) x178000 x178001 x178002) else (some false))) else (none)) else (some (decide (x3 ≤ 200)))
end
def sa_.f (k : Nat) (a0_0 : Int) (a0_1 : Int) (l0_2 : List (S100)) : Option (Bool) := if a0_0 < 0 then (sa_.j0 k true a0_0 a0_1 l0_2) else (if a0_0 > 31 then (sa_.j0 k true a0_0 a0_1 l0_2) else (if a0_1 < 0 then (sa_.j0 k true a0_0 a0_1 l0_2) else (if a0_1 ≥ 4 then (sa_.j0 k true a0_0 a0_1 l0_2) else (if (l0_2.length : Int) < 1 then (sa_.j0 k true a0_0 a0_1 l0_2) else (sa_.j0 k (decide ((l0_2.length : Int) > 24)) a0_0 a0_1 l0_2)))))
theorem sa_.nd_ : ∀ k, (∀ y0 y1 y2 y3, LeO (sa_.j0 k y0 y1 y2 y3) (sa_.j0 (k + 1) y0 y1 y2 y3)) ∧ (∀ y0 y1 y2 y3 y4, LeO (sa_.l0 k y0 y1 y2 y3 y4) (sa_.l0 (k + 1) y0 y1 y2 y3 y4))
 | 0 => ⟨fun _ _ _ _ r h => by simp [sa_.j0] at h, fun _ _ _ _ _ r h => by simp [sa_.l0] at h⟩
 | k + 1 => by
  obtain ⟨ih0, ih1⟩ := sa_.nd_ k
  refine ⟨?_, ?_⟩
  ·intro y0 y1 y2 y3
   unfold sa_.j0
   have m0 := ab_.mono
   exact Qr
  intro y0 y1 y2 y3 y4
  unfold sa_.l0
  have m0 := ab_.mono
  exact Qr
theorem sa_.mono : ∀ a0 a1 a2 k, LeO (sa_.f k a0 a1 a2) (sa_.f (k + 1) a0 a1 a2) := by
 intro a0 a1 a2 k
 obtain ⟨ih0, ih1⟩ := sa_.nd_ k
 unfold sa_.f
 have m0 := ab_.mono
 exact Qr
set_option maxHeartbeats 8000000 in
set_option maxRecDepth 100000 in
theorem sa_.calls (k : Nat) (a0_0 : Int) (a0_1 : Int) (A0_2 : Option Addr) (c0_2 : Nat) (l0_2 : List (S100)) (r : Bool) (w : World) (hr0_2 : Kd.C k100 w A0_2 l0_2.length l0_2) (hc0_2 : l0_2.length ≤ c0_2) (h : sa_.f k a0_0 a0_1 l0_2 = some r) :
  Calls Tryz.prog 64 #[.agg #[.int .i64 a0_0, .int .i64 a0_1, .slice A0_2 l0_2.length c0_2]] w fun e w' => e = .returned (.bool r) ∧ Below w.heap.size w w' := by
 have hu65 := Tryz.underlying65
 have hu100 := Tryz.underlying100
 have HR0_2 := ba_.mk hr0_2
 have HC0_2 := ba_.mk hc0_2
 clear hr0_2 hc0_2
 have HB := ba_.mk (Below.refl w.heap.size w)
 have H : (if a0_0 < 0 then (sa_.j0 k true a0_0 a0_1 l0_2) else (if a0_0 > 31 then (sa_.j0 k true a0_0 a0_1 l0_2) else (if a0_1 < 0 then (sa_.j0 k true a0_0 a0_1 l0_2) else (if a0_1 ≥ 4 then (sa_.j0 k true a0_0 a0_1 l0_2) else (if (l0_2.length : Int) < 1 then (sa_.j0 k true a0_0 a0_1 l0_2) else (sa_.j0 k (decide ((l0_2.length : Int) > 24)) a0_0 a0_1 l0_2)))))) = some r := h
 clear h
 have HC2 := ba_.mk H
 clear H
 go_enter Tryz.func64, Tryz.ntmps64
 go_upto_region 1 with (first | ((with_reducible refine ld_ (N := 1) rfl ?_); (try (refine ih_ (by rfl) ?_; dsimp only)); refine de_ ?hg (N := 1) ?hd (cs := #[.int .i64 a0_0, .int .i64 a0_1, .slice A0_2 l0_2.length c0_2]) (t := 65) ?hr ?_; (case hd => rfl); (case hg => rfl); (case hr => exact Qt); intro gb177 hg w3 hbox hb; have n0_ := ba_.mk (hb_ Qh hb); have n1_ := ba_.mk (hbox); have n2_ := ba_.mk ((by rw [hg]; exact (pb_ Qh) : w.heap.size ≤ gb177)); have n3_ := ba_.mk ((by rw [hg]; exact (pb_ Qh) : w.heap.size ≤ gb177)); clear HB; have HB := n0_; have BK177 := n1_; have GW177 := n2_; have GE177 := n3_; clear n0_ n1_ n2_ n3_; clear hb hbox hg))
 (try simp only [Act.put, List.setIfInBounds_toArray, List.set_cons_zero, List.set_cons_succ])
 go_cut [34] (fun v34 wc => ∃ (kq : Nat) (x34_1 : Bool), v34 = .bool x34_1 ∧ ba_ (sa_.j0 kq x34_1 a0_0 a0_1 l0_2 = some r) ∧ ba_ (kq ≤ k) ∧ ba_ (wc.heap[gb177]? = some (.cells #[.int .i64 a0_0, .int .i64 a0_1, (.slice A0_2 l0_2.length c0_2)] 65 (0, 0))) ∧ ba_ (Below w.heap.size w wc))
 case first =>
  have H := HC2.out
  clear HC2
  by_cases c4 : a0_0 < 0
  ·rw [if_pos c4] at H
   have c4b0 := decide_eq_true c4
   clear c4
   (first | rw [c4b0] | (simp only [yb_, ac_]; rw [c4b0]) | skip)
   have H' := ba_.mk H
   clear H
   have hcz5_0 : w3.cell? ⟨gb177, 0, none⟩ = some (.int .i64 a0_0) := (la_ BK177.out 0).trans rfl
   have hcz5_1 : w3.cell? ⟨gb177, 1, none⟩ = some (.int .i64 a0_1) := (la_ BK177.out 1).trans rfl
   have hcz5_2 : w3.cell? ⟨gb177, 2, none⟩ = some (.slice A0_2 l0_2.length c0_2) := (la_ BK177.out 2).trans rfl
   have hfz5_0 := ja_ BK177.out 0
   have hfz5_1 := ja_ BK177.out 1
   have hfz5_2 := ja_ BK177.out 2
   go_wp2
   go_meet
   case rel => exact Ym
  rw [if_neg c4] at H
  have c4b0 := decide_eq_false c4
  clear c4
  (first | rw [c4b0] | (simp only [yb_, ac_]; rw [c4b0]) | skip)
  by_cases c6 : a0_0 > 31
  ·rw [if_pos c6] at H
   have c6b0 : decide (31 < a0_0) = true := decide_eq_true c6
   clear c6
   have H' := ba_.mk H
   clear H
   have hcz7_0 : w3.cell? ⟨gb177, 0, none⟩ = some (.int .i64 a0_0) := (la_ BK177.out 0).trans rfl
   have hcz7_1 : w3.cell? ⟨gb177, 1, none⟩ = some (.int .i64 a0_1) := (la_ BK177.out 1).trans rfl
   have hcz7_2 : w3.cell? ⟨gb177, 2, none⟩ = some (.slice A0_2 l0_2.length c0_2) := (la_ BK177.out 2).trans rfl
   have hfz7_0 := ja_ BK177.out 0
   have hfz7_1 := ja_ BK177.out 1
   have hfz7_2 := ja_ BK177.out 2
   go_wp2
   go_meet
   case rel => exact Ym
  rw [if_neg c6] at H
  have c6b0 : decide (31 < a0_0) = false := decide_eq_false c6
  clear c6
  by_cases c8 : a0_1 < 0
  ·rw [if_pos c8] at H
   have c8b0 := decide_eq_true c8
   clear c8
   have H' := ba_.mk H
   clear H
   have hcz9_0 : w3.cell? ⟨gb177, 0, none⟩ = some (.int .i64 a0_0) := (la_ BK177.out 0).trans rfl
   have hcz9_1 : w3.cell? ⟨gb177, 1, none⟩ = some (.int .i64 a0_1) := (la_ BK177.out 1).trans rfl
   have hcz9_2 : w3.cell? ⟨gb177, 2, none⟩ = some (.slice A0_2 l0_2.length c0_2) := (la_ BK177.out 2).trans rfl
   have hfz9_0 := ja_ BK177.out 0
   have hfz9_1 := ja_ BK177.out 1
   have hfz9_2 := ja_ BK177.out 2
   go_wp2
   go_meet
   case rel => exact Ym
  rw [if_neg c8] at H
  have c8b0 := decide_eq_false c8
  clear c8
  by_cases c10 : a0_1 ≥ 4
  ·rw [if_pos c10] at H
   have c10b0 : decide (4 ≤ a0_1) = true := decide_eq_true c10
   clear c10
   have H' := ba_.mk H
   clear H
   have hcz11_0 : w3.cell? ⟨gb177, 0, none⟩ = some (.int .i64 a0_0) := (la_ BK177.out 0).trans rfl
   have hcz11_1 : w3.cell? ⟨gb177, 1, none⟩ = some (.int .i64 a0_1) := (la_ BK177.out 1).trans rfl
   have hcz11_2 : w3.cell? ⟨gb177, 2, none⟩ = some (.slice A0_2 l0_2.length c0_2) := (la_ BK177.out 2).trans rfl
   have hfz11_0 := ja_ BK177.out 0
   have hfz11_1 := ja_ BK177.out 1
   have hfz11_2 := ja_ BK177.out 2
   go_wp2
   go_meet
   case rel => exact Ym
  rw [if_neg c10] at H
  have c10b0 : decide (4 ≤ a0_1) = false := decide_eq_false c10
  clear c10
  by_cases c12 : (l0_2.length : Int) < 1
  ·rw [if_pos c12] at H
   have c12b0 := decide_eq_true c12
   have c12b1 : decide (l0_2.length < 1) = true := decide_eq_true Qa
   clear c12
   have H' := ba_.mk H
   clear H
   have hcz13_0 : w3.cell? ⟨gb177, 0, none⟩ = some (.int .i64 a0_0) := (la_ BK177.out 0).trans rfl
   have hcz13_1 : w3.cell? ⟨gb177, 1, none⟩ = some (.int .i64 a0_1) := (la_ BK177.out 1).trans rfl
   have hcz13_2 : w3.cell? ⟨gb177, 2, none⟩ = some (.slice A0_2 l0_2.length c0_2) := (la_ BK177.out 2).trans rfl
   have hfz13_0 := ja_ BK177.out 0
   have hfz13_1 := ja_ BK177.out 1
   have hfz13_2 := ja_ BK177.out 2
   go_wp2
   go_meet
   case rel => exact Ym
  rw [if_neg c12] at H
  have c12b0 := decide_eq_false c12
  have c12b1 : decide (l0_2.length < 1) = false := decide_eq_false Qa
  clear c12
  have H' := ba_.mk H
  clear H
  have hcz14_0 : w3.cell? ⟨gb177, 0, none⟩ = some (.int .i64 a0_0) := (la_ BK177.out 0).trans rfl
  have hcz14_1 : w3.cell? ⟨gb177, 1, none⟩ = some (.int .i64 a0_1) := (la_ BK177.out 1).trans rfl
  have hcz14_2 : w3.cell? ⟨gb177, 2, none⟩ = some (.slice A0_2 l0_2.length c0_2) := (la_ BK177.out 2).trans rfl
  have hfz14_0 := ja_ BK177.out 0
  have hfz14_1 := ja_ BK177.out 1
  have hfz14_2 := ja_ BK177.out 2
  go_wp2
  go_meet
  case rel => exact ⟨_, (decide ((l0_2.length : Int) > 24)), Ql, H', ⟨Xu⟩, ⟨by (with_reducible repeat (first | refine ia_ ?_ _ | refine ma_ ?_ | refine ha_ ?_ _)); exact BK177.out⟩, ⟨Xy⟩⟩
 case rest =>
  clear HC2
  try clear c1
  try clear p2
  try clear c4
  try clear c4b0
  try clear c6
  try clear c6b0
  try clear c8
  try clear c8b0
  try clear c10
  try clear c10b0
  try clear c12
  try clear c12b0
  try clear c12b1
  try clear hcz11_0
  try clear hcz11_1
  try clear hcz11_2
  try clear hcz13_0
  try clear hcz13_1
  try clear hcz13_2
  try clear hcz14_0
  try clear hcz14_1
  try clear hcz14_2
  try clear hcz5_0
  try clear hcz5_1
  try clear hcz5_2
  try clear hcz7_0
  try clear hcz7_1
  try clear hcz7_2
  try clear hcz9_0
  try clear hcz9_1
  try clear hcz9_2
  try clear hfz11_0
  try clear hfz11_1
  try clear hfz11_2
  try clear hfz13_0
  try clear hfz13_1
  try clear hfz13_2
  try clear hfz14_0
  try clear hfz14_1
  try clear hfz14_2
  try clear hfz5_0
  try clear hfz5_1
  try clear hfz5_2
  try clear hfz7_0
  try clear hfz7_1
  try clear hfz7_2
  try clear hfz9_0
  try clear hfz9_1
  try clear hfz9_2
  obtain ⟨kq, x34_1, rfl, HA, HJ1, BK177, HB⟩ := hcut
  cases kq with
  | zero => exact absurd HA.out (by simp [sa_.j0])
  | succ kj1 =>
   have H := HA.out
   clear HA
   simp only [sa_.j0] at H
   by_cases c15 : x34_1 = true
   ·subst c15
    have H1 : (some false) = some r := by rw [if_pos rfl] at H; exact H
    clear H
    have H := H1
    clear H1
    obtain rfl := Option.some.inj H
    go_wp2
    go_ret
    exact ⟨Qu, Xy⟩
   replace c15 := Bool.eq_false_iff.mpr c15
   subst c15
   have H1 : (sa_.l0 kj1 0 0 a0_0 a0_1 l0_2) = some r := by rw [if_neg (show ¬ (false = true) by decide)] at H; exact H
   clear H
   have H := H1
   clear H1
   have H' := ba_.mk H
   clear H
   go_wp2
   go_loopg [3, 4] kj1 (fun kq v3 v4 w' => ∃ (x3_2 : Int) (x4_2 : Int), v3 = .int .i64 x3_2 ∧ v4 = .int .i64 x4_2 ∧ ba_ (sa_.l0 kq x3_2 x4_2 a0_0 a0_1 l0_2 = some r) ∧ ba_ (kq ≤ kj1) ∧ ba_ (w'.heap[gb177]? = some (.cells #[.int .i64 a0_0, .int .i64 a0_1, (.slice A0_2 l0_2.length c0_2)] 65 (0, 0))) ∧ ba_ (Below w.heap.size w w'))
   case atStart => exact ⟨(0), (0), Ql, Ql, H', ⟨Nat.le_refl _⟩, ⟨by (with_reducible repeat (first | refine ia_ ?_ _ | refine ma_ ?_ | refine ha_ ?_ _)); exact BK177.out⟩, ⟨Xy⟩⟩
   case round =>
    clear H'
    try clear c1
    try clear p2
    try clear c4
    try clear c4b0
    try clear c6
    try clear c6b0
    try clear c8
    try clear c8b0
    try clear c10
    try clear c10b0
    try clear c12
    try clear c12b0
    try clear c12b1
    try clear c15
    try clear hcz11_0
    try clear hcz11_1
    try clear hcz11_2
    try clear hcz13_0
    try clear hcz13_1
    try clear hcz13_2
    try clear hcz14_0
    try clear hcz14_1
    try clear hcz14_2
    try clear hcz5_0
    try clear hcz5_1
    try clear hcz5_2
    try clear hcz7_0
    try clear hcz7_1
    try clear hcz7_2
    try clear hcz9_0
    try clear hcz9_1
    try clear hcz9_2
    try clear hfz11_0
    try clear hfz11_1
    try clear hfz11_2
    try clear hfz13_0
    try clear hfz13_1
    try clear hfz13_2
    try clear hfz14_0
    try clear hfz14_1
    try clear hfz14_2
    try clear hfz5_0
    try clear hfz5_1
    try clear hfz5_2
    try clear hfz7_0
    try clear hfz7_1
    try clear hfz7_2
    try clear hfz9_0
    try clear hfz9_1
    try clear hfz9_2
    try clear p2
    obtain ⟨x3_2, x4_2, rfl, rfl, HA, HK2, BK177, HB⟩ := hrel
    cases gk with
    | zero => exact absurd HA.out (by simp [sa_.l0])
    | succ k2 =>
     have H := HA.out
     clear HA
     simp only [sa_.l0] at H
     by_cases c16 : x4_2 < (l0_2.length : Int)
     rotate_left
     ·rw [if_neg c16] at H
      have c16b0 := decide_eq_false c16
      clear c16
      obtain rfl := Option.some.inj H
      have hcz25_0 : wr.cell? ⟨gb177, 0, none⟩ = some (.int .i64 a0_0) := (la_ BK177.out 0).trans rfl
      have hcz25_1 : wr.cell? ⟨gb177, 1, none⟩ = some (.int .i64 a0_1) := (la_ BK177.out 1).trans rfl
      have hcz25_2 : wr.cell? ⟨gb177, 2, none⟩ = some (.slice A0_2 l0_2.length c0_2) := (la_ BK177.out 2).trans rfl
      have hfz25_0 := ja_ BK177.out 0
      have hfz25_1 := ja_ BK177.out 1
      have hfz25_2 := ja_ BK177.out 2
      go_wp2
      go_ret
      exact ⟨Qu, Xy⟩
     rw [if_pos c16] at H
     have c16b0 := decide_eq_true c16
     clear c16
     obtain ⟨c17, H⟩ := Qq H
     have c17b0 := decide_eq_true c17
     clear c17
     obtain ⟨t179, A18, H⟩ := Qo H
     try dsimp only at H
     by_cases c19 : t179 = true
     rotate_left
     ·replace c19 := Bool.eq_false_iff.mpr c19
      subst c19
      have H1 : (some false) = some r := by rw [if_neg (show ¬ (false = true) by decide)] at H; exact H
      clear H
      have H := H1
      clear H1
      obtain rfl := Option.some.inj H
      have hcz23_0 : wr.cell? ⟨gb177, 0, none⟩ = some (.int .i64 a0_0) := (la_ BK177.out 0).trans rfl
      have hcz23_1 : wr.cell? ⟨gb177, 1, none⟩ = some (.int .i64 a0_1) := (la_ BK177.out 1).trans rfl
      have hcz23_2 : wr.cell? ⟨gb177, 2, none⟩ = some (.slice A0_2 l0_2.length c0_2) := (la_ BK177.out 2).trans rfl
      have hfz23_0 := ja_ BK177.out 0
      have hfz23_1 := ja_ BK177.out 1
      have hfz23_2 := ja_ BK177.out 2
      have p178 : 0 ≤ (x4_2 : Int) := of_decide_eq_true Qi
      have q178 : x4_2 < (l0_2.length : Int) := of_decide_eq_true Qi
      obtain ⟨ad178, e178, hx178_0, hx178_1, hx178_2, hx178_3, hx178_4, hx178_5⟩ := eq_ HR0_2.out x4_2 p178 q178
      cases e178
      replace hx178_0 := (HB.out.cell (World.block_lt_of_cell? w _ hx178_0)).trans hx178_0
      replace hx178_1 := (HB.out.cell (World.block_lt_of_cell? w _ hx178_1)).trans hx178_1
      replace hx178_2 := (HB.out.cell (World.block_lt_of_cell? w _ hx178_2)).trans hx178_2
      replace hx178_3 := (HB.out.cell (World.block_lt_of_cell? w _ hx178_3)).trans hx178_3
      replace hx178_4 := (HB.out.cell (World.block_lt_of_cell? w _ hx178_4)).trans hx178_4
      replace hx178_5 := (HB.out.cell (World.block_lt_of_cell? w _ hx178_5)).trans hx178_5
      replace p178 := eq_true p178
      replace q178 := eq_true q178
      go_wp2_with (first | ((with_reducible refine va_ (f := 92) rfl ?_); refine lc_ (some 47) rfl rfl Tryz.func92 Qb rfl #[.agg #[.int .i64 ((hd_ l0_2 x4_2).f0), .int .i64 ((hd_ l0_2 x4_2).f1), .int .i64 ((hd_ l0_2 x4_2).f2), .int .i64 ((hd_ l0_2 x4_2).f3), .int .i64 ((hd_ l0_2 x4_2).f4), .int .i64 ((hd_ l0_2 x4_2).f5)]] rfl Qm ?_; (with_reducible refine (ab_.calls k2 ((hd_ l0_2 x4_2).f0) ((hd_ l0_2 x4_2).f1) ((hd_ l0_2 x4_2).f2) ((hd_ l0_2 x4_2).f3) ((hd_ l0_2 x4_2).f4) ((hd_ l0_2 x4_2).f5) false _ A18.out).mono ?_); rintro e w24 ⟨rfl, hb⟩; refine ⟨_, rfl, ?_⟩; have n0_ := ba_.mk (pc_ (g := gb177) (o := .cells #[.int .i64 a0_0, .int .i64 a0_1, .slice (some ad178) l0_2.length c0_2] 65 (0, 0)) (Qf BK177.out) hb); have n1_ := ba_.mk (hb_ Xy hb); clear BK177; clear HB; have BK177 := n0_; have HB := n1_; clear n0_ n1_; (try clear hb); (try clear hb2); (try clear hk); (try clear hi)))
      go_ret
      exact ⟨Qu, Xy⟩
     subst c19
     have H1 : (sa_.l0 k2 (wrap64 (x3_2 + ((hd_ l0_2 x4_2).f1))) (wrap64 (x4_2 + 1)) a0_0 a0_1 l0_2) = some r := by rw [if_pos rfl] at H; exact H
     clear H
     have H := H1
     clear H1
     have H' := ba_.mk H
     clear H
     have hcz20_0 : wr.cell? ⟨gb177, 0, none⟩ = some (.int .i64 a0_0) := (la_ BK177.out 0).trans rfl
     have hcz20_1 : wr.cell? ⟨gb177, 1, none⟩ = some (.int .i64 a0_1) := (la_ BK177.out 1).trans rfl
     have hcz20_2 : wr.cell? ⟨gb177, 2, none⟩ = some (.slice A0_2 l0_2.length c0_2) := (la_ BK177.out 2).trans rfl
     have hfz20_0 := ja_ BK177.out 0
     have hfz20_1 := ja_ BK177.out 1
     have hfz20_2 := ja_ BK177.out 2
     have p178 : 0 ≤ (x4_2 : Int) := of_decide_eq_true Qi
     have q178 : x4_2 < (l0_2.length : Int) := of_decide_eq_true Qi
     obtain ⟨ad178, e178, hx178_0, hx178_1, hx178_2, hx178_3, hx178_4, hx178_5⟩ := eq_ HR0_2.out x4_2 p178 q178
     cases e178
     replace hx178_0 := (HB.out.cell (World.block_lt_of_cell? w _ hx178_0)).trans hx178_0
     replace hx178_1 := (HB.out.cell (World.block_lt_of_cell? w _ hx178_1)).trans hx178_1
     replace hx178_2 := (HB.out.cell (World.block_lt_of_cell? w _ hx178_2)).trans hx178_2
     replace hx178_3 := (HB.out.cell (World.block_lt_of_cell? w _ hx178_3)).trans hx178_3
     replace hx178_4 := (HB.out.cell (World.block_lt_of_cell? w _ hx178_4)).trans hx178_4
     replace hx178_5 := (HB.out.cell (World.block_lt_of_cell? w _ hx178_5)).trans hx178_5
     replace p178 := eq_true p178
     replace q178 := eq_true q178
     go_wp2_with (first | ((with_reducible refine va_ (f := 92) rfl ?_); refine lc_ (some 47) rfl rfl Tryz.func92 Qb rfl #[.agg #[.int .i64 ((hd_ l0_2 x4_2).f0), .int .i64 ((hd_ l0_2 x4_2).f1), .int .i64 ((hd_ l0_2 x4_2).f2), .int .i64 ((hd_ l0_2 x4_2).f3), .int .i64 ((hd_ l0_2 x4_2).f4), .int .i64 ((hd_ l0_2 x4_2).f5)]] rfl Qm ?_; (with_reducible refine (ab_.calls k2 ((hd_ l0_2 x4_2).f0) ((hd_ l0_2 x4_2).f1) ((hd_ l0_2 x4_2).f2) ((hd_ l0_2 x4_2).f3) ((hd_ l0_2 x4_2).f4) ((hd_ l0_2 x4_2).f5) true _ A18.out).mono ?_); rintro e w21 ⟨rfl, hb⟩; refine ⟨_, rfl, ?_⟩; have n0_ := ba_.mk (pc_ (g := gb177) (o := .cells #[.int .i64 a0_0, .int .i64 a0_1, .slice (some ad178) l0_2.length c0_2] 65 (0, 0)) (Qf BK177.out) hb); have n1_ := ba_.mk (hb_ Xy hb); clear BK177; clear HB; have BK177 := n0_; have HB := n1_; clear n0_ n1_; (try clear hb); (try clear hb2); (try clear hk); (try clear hi); have hcz22_0 : w21.cell? ⟨gb177, 0, none⟩ = some (.int .i64 a0_0) := (la_ BK177.out 0).trans rfl; have hcz22_1 : w21.cell? ⟨gb177, 1, none⟩ = some (.int .i64 a0_1) := (la_ BK177.out 1).trans rfl; have hcz22_2 : w21.cell? ⟨gb177, 2, none⟩ = some (.slice (some ad178) l0_2.length c0_2) := (la_ BK177.out 2).trans rfl; have hfz22_0 := ja_ BK177.out 0; have hfz22_1 := ja_ BK177.out 1; have hfz22_2 := ja_ BK177.out 2; have p180 : 0 ≤ (x4_2 : Int) := of_decide_eq_true Qi; have q180 : x4_2 < (l0_2.length : Int) := of_decide_eq_true Qi; obtain ⟨ad180, e180, hx180_0, hx180_1, hx180_2, hx180_3, hx180_4, hx180_5⟩ := eq_ HR0_2.out x4_2 p180 q180; obtain rfl : ad178 = ad180 := (by injection e180); replace hx180_0 := (HB.out.cell (World.block_lt_of_cell? w _ hx180_0)).trans hx180_0; replace hx180_1 := (HB.out.cell (World.block_lt_of_cell? w _ hx180_1)).trans hx180_1; replace hx180_2 := (HB.out.cell (World.block_lt_of_cell? w _ hx180_2)).trans hx180_2; replace hx180_3 := (HB.out.cell (World.block_lt_of_cell? w _ hx180_3)).trans hx180_3; replace hx180_4 := (HB.out.cell (World.block_lt_of_cell? w _ hx180_4)).trans hx180_4; replace hx180_5 := (HB.out.cell (World.block_lt_of_cell? w _ hx180_5)).trans hx180_5; replace p180 := eq_true p180; replace q180 := eq_true q180))
     go_roundg k2
     case measure => have := HJ1.out; have := HK2.out; omega
     case rel => exact ⟨(wrap64 (x3_2 + ((hd_ l0_2 x4_2).f1))), (wrap64 (x4_2 + 1)), Ql, Ql, H', ⟨by have := HJ1.out; have := HK2.out; omega⟩, ⟨by (with_reducible repeat (first | refine ia_ ?_ _ | refine ma_ ?_ | refine ha_ ?_ _)); exact BK177.out⟩, ⟨Xy⟩⟩
def cd_.f (k : Nat) (a0_0 : Int) (a0_1 : Int) (a0_2 : Int) (a0_3 : Int) (a0_4 : Int) (a0_5 : Int) : Option (Int) := (ab_.f k a0_0 a0_1 a0_2 a0_3 a0_4 a0_5).bind fun t182 => (if t182 = true then (if a0_0 = 2 then (some (wrap64 (2 + a0_4))) else (some (mn (wrap64 (2 + a0_1)) 30))) else (some 0))
theorem cd_.mono : ∀ a0 a1 a2 a3 a4 a5 k, LeO (cd_.f k a0 a1 a2 a3 a4 a5) (cd_.f (k + 1) a0 a1 a2 a3 a4 a5) := by
 intro a0 a1 a2 a3 a4 a5 k
 unfold cd_.f
 have m0 := ab_.mono
 exact Qr
set_option maxHeartbeats 8000000 in
set_option maxRecDepth 100000 in
theorem cd_.calls (k : Nat) (a0_0 : Int) (a0_1 : Int) (a0_2 : Int) (a0_3 : Int) (a0_4 : Int) (a0_5 : Int) (r : Int) (w : World) (h : cd_.f k a0_0 a0_1 a0_2 a0_3 a0_4 a0_5 = some r) :
  Calls Tryz.prog 65 #[.agg #[.int .i64 a0_0, .int .i64 a0_1, .int .i64 a0_2, .int .i64 a0_3, .int .i64 a0_4, .int .i64 a0_5]] w fun e w' => e = .returned (.int .i64 r) ∧ Below w.heap.size w w' := by
 have hu100 := Tryz.underlying100
 have HB := ba_.mk (Below.refl w.heap.size w)
 have H : ((ab_.f k a0_0 a0_1 a0_2 a0_3 a0_4 a0_5).bind fun t182 => (if t182 = true then (if a0_0 = 2 then (some (wrap64 (2 + a0_4))) else (some (mn (wrap64 (2 + a0_1)) 30))) else (some 0))) = some r := h
 clear h
 obtain ⟨t182, A2, H⟩ := Qo H
 try dsimp only at H
 by_cases c3 : t182 = true
 rotate_left
 ·replace c3 := Bool.eq_false_iff.mpr c3
  subst c3
  have H1 : (some 0) = some r := by rw [if_neg (show ¬ (false = true) by decide)] at H; exact H
  clear H
  have H := H1
  clear H1
  obtain rfl := Option.some.inj H
  go_enter Tryz.func65, Tryz.ntmps65
  go_wp2_with (first | ((with_reducible refine ld_ (N := 1) rfl ?_); refine de_ ?hg (N := 1) ?hd (cs := #[.int .i64 a0_0, .int .i64 a0_1, .int .i64 a0_2, .int .i64 a0_3, .int .i64 a0_4, .int .i64 a0_5]) (t := 100) ?hr ?_; (case hd => rfl); (case hg => rfl); (case hr => exact Qt); intro gb181 hg w14 hbox hb; have n0_ := ba_.mk (hb_ Qh hb); have n1_ := ba_.mk (hbox); have n2_ := ba_.mk ((by rw [hg]; exact (pb_ Qh) : w.heap.size ≤ gb181)); have n3_ := ba_.mk ((by rw [hg]; exact (pb_ Qh) : w.heap.size ≤ gb181)); clear HB; have HB := n0_; have BK181 := n1_; have GW181 := n2_; have GE181 := n3_; clear n0_ n1_ n2_ n3_; clear hb hbox hg; have hcz15_0 : w14.cell? ⟨gb181, 0, none⟩ = some (.int .i64 a0_0) := (la_ BK181.out 0).trans rfl; have hcz15_1 : w14.cell? ⟨gb181, 1, none⟩ = some (.int .i64 a0_1) := (la_ BK181.out 1).trans rfl; have hcz15_2 : w14.cell? ⟨gb181, 2, none⟩ = some (.int .i64 a0_2) := (la_ BK181.out 2).trans rfl; have hcz15_3 : w14.cell? ⟨gb181, 3, none⟩ = some (.int .i64 a0_3) := (la_ BK181.out 3).trans rfl; have hcz15_4 : w14.cell? ⟨gb181, 4, none⟩ = some (.int .i64 a0_4) := (la_ BK181.out 4).trans rfl; have hcz15_5 : w14.cell? ⟨gb181, 5, none⟩ = some (.int .i64 a0_5) := (la_ BK181.out 5).trans rfl; have hfz15_0 := ja_ BK181.out 0; have hfz15_1 := ja_ BK181.out 1; have hfz15_2 := ja_ BK181.out 2; have hfz15_3 := ja_ BK181.out 3; have hfz15_4 := ja_ BK181.out 4; have hfz15_5 := ja_ BK181.out 5) | ((with_reducible refine va_ (f := 92) rfl ?_); refine lc_ (some 4) rfl rfl Tryz.func92 Qb rfl #[.agg #[.int .i64 a0_0, .int .i64 a0_1, .int .i64 a0_2, .int .i64 a0_3, .int .i64 a0_4, .int .i64 a0_5]] rfl Qm ?_; (with_reducible refine (ab_.calls k a0_0 a0_1 a0_2 a0_3 a0_4 a0_5 false _ A2.out).mono ?_); rintro e w16 ⟨rfl, hb⟩; refine ⟨_, rfl, ?_⟩; have n0_ := ba_.mk (pc_ (g := gb181) (o := .cells #[.int .i64 a0_0, .int .i64 a0_1, .int .i64 a0_2, .int .i64 a0_3, .int .i64 a0_4, .int .i64 a0_5] 100 (0, 0)) (Qf BK181.out) hb); have n1_ := ba_.mk (hb_ X9 hb); clear BK181; clear HB; have BK181 := n0_; have HB := n1_; clear n0_ n1_; (try clear hb); (try clear hb2); (try clear hk); (try clear hi)))
  go_ret
  exact ⟨Qu, X9⟩
 subst c3
 have H1 : (if a0_0 = 2 then (some (wrap64 (2 + a0_4))) else (some (mn (wrap64 (2 + a0_1)) 30))) = some r := by rw [if_pos rfl] at H; exact H
 clear H
 have H := H1
 clear H1
 by_cases c4 : a0_0 = 2
 ·rw [if_pos c4] at H
  have c4b0 : (a0_0 == 2) = true := beq_iff_eq.mpr c4
  have c4b1 : (a0_0 != 2) = false := bne_eq_false_iff_eq.mpr c4
  clear c4
  obtain rfl := Option.some.inj H
  go_enter Tryz.func65, Tryz.ntmps65
  go_wp2_with (first | ((with_reducible refine ld_ (N := 1) rfl ?_); refine de_ ?hg (N := 1) ?hd (cs := #[.int .i64 a0_0, .int .i64 a0_1, .int .i64 a0_2, .int .i64 a0_3, .int .i64 a0_4, .int .i64 a0_5]) (t := 100) ?hr ?_; (case hd => rfl); (case hg => rfl); (case hr => exact Qt); intro gb181 hg w5 hbox hb; have n0_ := ba_.mk (hb_ Qh hb); have n1_ := ba_.mk (hbox); have n2_ := ba_.mk ((by rw [hg]; exact (pb_ Qh) : w.heap.size ≤ gb181)); have n3_ := ba_.mk ((by rw [hg]; exact (pb_ Qh) : w.heap.size ≤ gb181)); clear HB; have HB := n0_; have BK181 := n1_; have GW181 := n2_; have GE181 := n3_; clear n0_ n1_ n2_ n3_; clear hb hbox hg; have hcz6_0 : w5.cell? ⟨gb181, 0, none⟩ = some (.int .i64 a0_0) := (la_ BK181.out 0).trans rfl; have hcz6_1 : w5.cell? ⟨gb181, 1, none⟩ = some (.int .i64 a0_1) := (la_ BK181.out 1).trans rfl; have hcz6_2 : w5.cell? ⟨gb181, 2, none⟩ = some (.int .i64 a0_2) := (la_ BK181.out 2).trans rfl; have hcz6_3 : w5.cell? ⟨gb181, 3, none⟩ = some (.int .i64 a0_3) := (la_ BK181.out 3).trans rfl; have hcz6_4 : w5.cell? ⟨gb181, 4, none⟩ = some (.int .i64 a0_4) := (la_ BK181.out 4).trans rfl; have hcz6_5 : w5.cell? ⟨gb181, 5, none⟩ = some (.int .i64 a0_5) := (la_ BK181.out 5).trans rfl; have hfz6_0 := ja_ BK181.out 0; have hfz6_1 := ja_ BK181.out 1; have hfz6_2 := ja_ BK181.out 2; have hfz6_3 := ja_ BK181.out 3; have hfz6_4 := ja_ BK181.out 4; have hfz6_5 := ja_ BK181.out 5) | ((with_reducible refine va_ (f := 92) rfl ?_); refine lc_ (some 4) rfl rfl Tryz.func92 Qb rfl #[.agg #[.int .i64 a0_0, .int .i64 a0_1, .int .i64 a0_2, .int .i64 a0_3, .int .i64 a0_4, .int .i64 a0_5]] rfl Qm ?_; (with_reducible refine (ab_.calls k a0_0 a0_1 a0_2 a0_3 a0_4 a0_5 true _ A2.out).mono ?_); rintro e w7 ⟨rfl, hb⟩; refine ⟨_, rfl, ?_⟩; have n0_ := ba_.mk (pc_ (g := gb181) (o := .cells #[.int .i64 a0_0, .int .i64 a0_1, .int .i64 a0_2, .int .i64 a0_3, .int .i64 a0_4, .int .i64 a0_5] 100 (0, 0)) (Qf BK181.out) hb); have n1_ := ba_.mk (hb_ X9 hb); clear BK181; clear HB; have BK181 := n0_; have HB := n1_; clear n0_ n1_; (try clear hb); (try clear hb2); (try clear hk); (try clear hi); have hcz8_0 : w7.cell? ⟨gb181, 0, none⟩ = some (.int .i64 a0_0) := (la_ BK181.out 0).trans rfl; have hcz8_1 : w7.cell? ⟨gb181, 1, none⟩ = some (.int .i64 a0_1) := (la_ BK181.out 1).trans rfl; have hcz8_2 : w7.cell? ⟨gb181, 2, none⟩ = some (.int .i64 a0_2) := (la_ BK181.out 2).trans rfl; have hcz8_3 : w7.cell? ⟨gb181, 3, none⟩ = some (.int .i64 a0_3) := (la_ BK181.out 3).trans rfl; have hcz8_4 : w7.cell? ⟨gb181, 4, none⟩ = some (.int .i64 a0_4) := (la_ BK181.out 4).trans rfl; have hcz8_5 : w7.cell? ⟨gb181, 5, none⟩ = some (.int .i64 a0_5) := (la_ BK181.out 5).trans rfl; have hfz8_0 := ja_ BK181.out 0; have hfz8_1 := ja_ BK181.out 1; have hfz8_2 := ja_ BK181.out 2; have hfz8_3 := ja_ BK181.out 3; have hfz8_4 := ja_ BK181.out 4; have hfz8_5 := ja_ BK181.out 5))
  go_ret
  exact ⟨Qu, X9⟩
 rw [if_neg c4] at H
 have c4b0 : (a0_0 == 2) = false := beq_eq_false_iff_ne.mpr c4
 have c4b1 : (a0_0 != 2) = true := bne_iff_ne.mpr c4
 obtain ⟨ji9, hji9⟩ : ∃ j_ : Int, (mn (wrap64 (2 + a0_1)) 30) = j_ := ⟨_, rfl⟩
 replace H : (some ji9) = some r := by first | (rw [hji9] at H; exact H) | (simp only [hji9] at H ⊢; exact H)
 (try rw [hji9] at A2)
 (try (have hji9h : ji9 ≤ 30 := by (rw [← hji9]; unfold mn; (repeat' split) <;> omega)))
 (try (have hji9g : ji9 ≤ 64 := by omega))
 have hji9_ : (if 30 < (wrap64 (2 + a0_1)) then 30 else (wrap64 (2 + a0_1))) = ji9 := hji9
 obtain rfl := Option.some.inj H
 go_enter Tryz.func65, Tryz.ntmps65
 go_wp2_with (first | ((with_reducible refine ld_ (N := 1) rfl ?_); refine de_ ?hg (N := 1) ?hd (cs := #[.int .i64 a0_0, .int .i64 a0_1, .int .i64 a0_2, .int .i64 a0_3, .int .i64 a0_4, .int .i64 a0_5]) (t := 100) ?hr ?_; (case hd => rfl); (case hg => rfl); (case hr => exact Qt); intro gb181 hg w10 hbox hb; have n0_ := ba_.mk (hb_ Qh hb); have n1_ := ba_.mk (hbox); have n2_ := ba_.mk ((by rw [hg]; exact (pb_ Qh) : w.heap.size ≤ gb181)); have n3_ := ba_.mk ((by rw [hg]; exact (pb_ Qh) : w.heap.size ≤ gb181)); clear HB; have HB := n0_; have BK181 := n1_; have GW181 := n2_; have GE181 := n3_; clear n0_ n1_ n2_ n3_; clear hb hbox hg; have hcz11_0 : w10.cell? ⟨gb181, 0, none⟩ = some (.int .i64 a0_0) := (la_ BK181.out 0).trans rfl; have hcz11_1 : w10.cell? ⟨gb181, 1, none⟩ = some (.int .i64 a0_1) := (la_ BK181.out 1).trans rfl; have hcz11_2 : w10.cell? ⟨gb181, 2, none⟩ = some (.int .i64 a0_2) := (la_ BK181.out 2).trans rfl; have hcz11_3 : w10.cell? ⟨gb181, 3, none⟩ = some (.int .i64 a0_3) := (la_ BK181.out 3).trans rfl; have hcz11_4 : w10.cell? ⟨gb181, 4, none⟩ = some (.int .i64 a0_4) := (la_ BK181.out 4).trans rfl; have hcz11_5 : w10.cell? ⟨gb181, 5, none⟩ = some (.int .i64 a0_5) := (la_ BK181.out 5).trans rfl; have hfz11_0 := ja_ BK181.out 0; have hfz11_1 := ja_ BK181.out 1; have hfz11_2 := ja_ BK181.out 2; have hfz11_3 := ja_ BK181.out 3; have hfz11_4 := ja_ BK181.out 4; have hfz11_5 := ja_ BK181.out 5) | ((with_reducible refine va_ (f := 92) rfl ?_); refine lc_ (some 4) rfl rfl Tryz.func92 Qb rfl #[.agg #[.int .i64 a0_0, .int .i64 a0_1, .int .i64 a0_2, .int .i64 a0_3, .int .i64 a0_4, .int .i64 a0_5]] rfl Qm ?_; (with_reducible refine (ab_.calls k a0_0 a0_1 a0_2 a0_3 a0_4 a0_5 true _ A2.out).mono ?_); rintro e w12 ⟨rfl, hb⟩; refine ⟨_, rfl, ?_⟩; have n0_ := ba_.mk (pc_ (g := gb181) (o := .cells #[.int .i64 a0_0, .int .i64 a0_1, .int .i64 a0_2, .int .i64 a0_3, .int .i64 a0_4, .int .i64 a0_5] 100 (0, 0)) (Qf BK181.out) hb); have n1_ := ba_.mk (hb_ X9 hb); clear BK181; clear HB; have BK181 := n0_; have HB := n1_; clear n0_ n1_; (try clear hb); (try clear hb2); (try clear hk); (try clear hi); have hcz13_0 : w12.cell? ⟨gb181, 0, none⟩ = some (.int .i64 a0_0) := (la_ BK181.out 0).trans rfl; have hcz13_1 : w12.cell? ⟨gb181, 1, none⟩ = some (.int .i64 a0_1) := (la_ BK181.out 1).trans rfl; have hcz13_2 : w12.cell? ⟨gb181, 2, none⟩ = some (.int .i64 a0_2) := (la_ BK181.out 2).trans rfl; have hcz13_3 : w12.cell? ⟨gb181, 3, none⟩ = some (.int .i64 a0_3) := (la_ BK181.out 3).trans rfl; have hcz13_4 : w12.cell? ⟨gb181, 4, none⟩ = some (.int .i64 a0_4) := (la_ BK181.out 4).trans rfl; have hcz13_5 : w12.cell? ⟨gb181, 5, none⟩ = some (.int .i64 a0_5) := (la_ BK181.out 5).trans rfl; have hfz13_0 := ja_ BK181.out 0; have hfz13_1 := ja_ BK181.out 1; have hfz13_2 := ja_ BK181.out 2; have hfz13_3 := ja_ BK181.out 3; have hfz13_4 := ja_ BK181.out 4; have hfz13_5 := ja_ BK181.out 5))
 go_ret
 exact ⟨by first | rfl | (simp [ib_, jb_] <;> rfl) | (simp only [← hji9]; first | rfl | (simp [ib_, jb_] <;> rfl)) | (simp [*, ib_, jb_] <;> rfl), X9⟩
mutual
def ya_.l0 : Nat → List (List Int) → Int → Int → Int → Int → List (S100) → Option ((List (List Int)) × Int)
 | 0, _, _, _, _, _, _ => none
 | k + 1, x4, x5, x6, x184000, x184001, x184002 => if x6 < (x184002.length : Int) then (if 0 ≤ x6 then ((cd_.f k ((hd_ x184002 x6).f0) ((hd_ x184002 x6).f1) ((hd_ x184002 x6).f2) ((hd_ x184002 x6).f3) ((hd_ x184002 x6).f4) ((hd_ x184002 x6).f5)).bind fun t190 => (if t190 > x5 then (if x4.length < 5864062014805 then ((some (x4 ++ [[]] : List (List Int))).bind fun y191 => (if 0 ≤ (wrap64 ((y191.length : Int) - 1)) then (if (wrap64 ((y191.length : Int) - 1)) < (y191.length : Int) then (if (kf_ y191 (wrap64 ((y191.length : Int) - 1))).length < 17592186044416 then (ya_.l0 k (y191.set ((wrap64 ((y191.length : Int) - 1)) : Int).toNat ((kf_ y191 (wrap64 ((y191.length : Int) - 1))) ++ [x6])) (wrap64 (30 - t190)) (wrap64 (x6 + 1)) x184000 x184001 x184002) else (none)) else (none)) else (none))) else (none)) else (if 0 ≤ (wrap64 ((x4.length : Int) - 1)) then (if (wrap64 ((x4.length : Int) - 1)) < (x4.length : Int) then (if (kf_ x4 (wrap64 ((x4.length : Int) - 1))).length < 17592186044416 then (ya_.l0 k (x4.set ((wrap64 ((x4.length : Int) - 1)) : Int).toNat ((kf_ x4 (wrap64 ((x4.length : Int) - 1))) ++ [x6])) (wrap64 (x5 - t190)) (wrap64 (x6 + 1)) x184000 x184001 x184002) else (none)) else (none)) else (none)))) else (none)) else (ya_.l1 k x4)
def ya_.l1 : Nat → List (List Int) → Option ((List (List Int)) × Int)
 | 0, _ => none
 | k + 1, x4 => if ((x4.length : Int) % 4) = 0 then (if (x4.length : Int) > 12 then (some (([] : List (List Int)), 3)) else (some (x4, 0))) else (if x4.length < 5864062014805 then (ya_.l1 k (x4 ++ [[]])) else (none))
end
def ya_.f (k : Nat) (a0_0 : Int) (a0_1 : Int) (l0_2 : List (S100)) : Option ((List (List Int)) × Int) := (sa_.f k a0_0 a0_1 l0_2).bind fun t185 => (if t185 = true then (ya_.l0 k (([[], []] : List (List Int))) 30 0 a0_0 a0_1 l0_2) else (some (([] : List (List Int)), 1)))
theorem ya_.nd_ : ∀ k, (∀ y0 y1 y2 y3 y4 y5, LeO (ya_.l0 k y0 y1 y2 y3 y4 y5) (ya_.l0 (k + 1) y0 y1 y2 y3 y4 y5)) ∧ (∀ y0, LeO (ya_.l1 k y0) (ya_.l1 (k + 1) y0))
 | 0 => ⟨fun _ _ _ _ _ _ r h => by simp [ya_.l0] at h, fun _ r h => by simp [ya_.l1] at h⟩
 | k + 1 => by
  obtain ⟨ih0, ih1⟩ := ya_.nd_ k
  refine ⟨?_, ?_⟩
  ·intro y0 y1 y2 y3 y4 y5
   unfold ya_.l0
   have m0 := sa_.mono
   have m1 := cd_.mono
   exact Qr
  intro y0
  unfold ya_.l1
  have m0 := sa_.mono
  have m1 := cd_.mono
  exact Qr
theorem ya_.mono : ∀ a0 a1 a2 k, LeO (ya_.f k a0 a1 a2) (ya_.f (k + 1) a0 a1 a2) := by
 intro a0 a1 a2 k
 obtain ⟨ih0, ih1⟩ := ya_.nd_ k
 unfold ya_.f
 have m0 := sa_.mono
 have m1 := cd_.mono
 exact Qr
set_option maxHeartbeats 8000000 in
set_option maxRecDepth 100000 in
theorem ya_.calls (k : Nat) (a0_0 : Int) (a0_1 : Int) (A0_2 : Option Addr) (c0_2 : Nat) (l0_2 : List (S100)) (r1 : List (List Int)) (r2 : Int) (w : World) (hr0_2 : Kd.C k100 w A0_2 l0_2.length l0_2) (hc0_2 : l0_2.length ≤ c0_2) (h : ya_.f k a0_0 a0_1 l0_2 = some (r1, r2)) :
  Calls Tryz.prog 33 #[.agg #[.int .i64 a0_0, .int .i64 a0_1, .slice A0_2 l0_2.length c0_2]] w fun e w' => ∃ v0_ : Value, e = .returned (.tuple #[.agg #[v0_], .int .i64 r2]) ∧ Kd.S (Kd.slice 3 (Kd.int .i64)) 22 w' w.heap.size (fun _ => True) v0_ r1 ∧ Below w.heap.size w w' := by
 have hu65 := Tryz.underlying65
 have hu60 := Tryz.underlying60
 have hu100 := Tryz.underlying100
 have HR0_2 := ba_.mk hr0_2
 have HC0_2 := ba_.mk hc0_2
 clear hr0_2 hc0_2
 have HB := ba_.mk (Below.refl w.heap.size w)
 have H : ((sa_.f k a0_0 a0_1 l0_2).bind fun t185 => (if t185 = true then (ya_.l0 k (([[], []] : List (List Int))) 30 0 a0_0 a0_1 l0_2) else (some (([] : List (List Int)), 1)))) = some (r1, r2) := h
 clear h
 obtain ⟨t185, A2, H⟩ := Qo H
 try dsimp only at H
 by_cases c3 : t185 = true
 rotate_left
 ·replace c3 := Bool.eq_false_iff.mpr c3
  subst c3
  have H1 : (some (([] : List (List Int)), 1)) = some (r1, r2) := by rw [if_neg (show ¬ (false = true) by decide)] at H; exact H
  clear H
  have H := H1
  clear H1
  simp only [Option.some.injEq, Prod.mk.injEq] at H
  obtain ⟨rfl, rfl⟩ := H
  go_enter Tryz.func33, Tryz.ntmps33
  go_wp2_with (first | ((with_reducible refine ld_ (N := 1) rfl ?_); refine de_ ?hg (N := 1) ?hd (cs := #[.int .i64 a0_0, .int .i64 a0_1, .slice A0_2 l0_2.length c0_2]) (t := 65) ?hr ?_; (case hd => rfl); (case hg => rfl); (case hr => exact Qt); intro gb183 hg w58 hbox hb; have n0_ := ba_.mk (hb_ Qh hb); have n1_ := ba_.mk (hbox); have n2_ := ba_.mk ((by rw [hg]; exact (pb_ Qh) : w.heap.size ≤ gb183)); have n3_ := ba_.mk ((by rw [hg]; exact (pb_ Qh) : w.heap.size ≤ gb183)); clear HB; have HB := n0_; have BK183 := n1_; have GW183 := n2_; have GE183 := n3_; clear n0_ n1_ n2_ n3_; clear hb hbox hg) | ((with_reducible refine ld_ (N := 2) rfl ?_); refine de_ ?hg (N := 2) ?hd (cs := #[.slice none 0 0]) (t := 60) ?hr ?_; (case hd => rfl); (case hg => rfl); (case hr => exact Qt); intro gb184 hg w59 hbox hb; have n0_ := ba_.mk (pc_ (g := gb183) (o := .cells #[.int .i64 a0_0, .int .i64 a0_1, .slice A0_2 l0_2.length c0_2] 65 (0, 0)) (Qf BK183.out) hb); have n1_ := ba_.mk (hb_ Ya hb); have n2_ := ba_.mk (hbox); have n3_ := ba_.mk ((by rw [hg]; exact (pb_ Ya) : w.heap.size ≤ gb184)); have n4_ := ba_.mk ((by rw [hg]; exact (pb_ Ya) : w.heap.size ≤ gb184)); have n5_ := ba_.mk ((by rw [hg]; exact Nat.ne_of_lt (bg_ (g := gb183) (o := .cells #[.int .i64 a0_0, .int .i64 a0_1, .slice A0_2 l0_2.length c0_2] 65 (0, 0)) (Qf BK183.out)) : gb183 ≠ gb184)); have n6_ := ba_.mk ((by rw [hg]; exact Nat.ne_of_gt (bg_ (g := gb183) (o := .cells #[.int .i64 a0_0, .int .i64 a0_1, .slice A0_2 l0_2.length c0_2] 65 (0, 0)) (Qf BK183.out)) : gb184 ≠ gb183)); clear BK183; clear HB; have BK183 := n0_; have HB := n1_; have BK184 := n2_; have GW184 := n3_; have GE184 := n4_; have NB183_184 := n5_; have NB184_183 := n6_; clear n0_ n1_ n2_ n3_ n4_ n5_ n6_; clear hb hbox hg; have hnb60 := NB183_184.out; have hnc60 := NB184_183.out; have hcz61_0 : w59.cell? ⟨gb183, 0, none⟩ = some (.int .i64 a0_0) := (la_ BK183.out 0).trans rfl; have hcz61_1 : w59.cell? ⟨gb183, 1, none⟩ = some (.int .i64 a0_1) := (la_ BK183.out 1).trans rfl; have hcz61_2 : w59.cell? ⟨gb183, 2, none⟩ = some (.slice A0_2 l0_2.length c0_2) := (la_ BK183.out 2).trans rfl; have hfz61_0 := ja_ BK183.out 0; have hfz61_1 := ja_ BK183.out 1; have hfz61_2 := ja_ BK183.out 2) | ((with_reducible refine va_ (f := 64) rfl ?_); refine lc_ (some 10) rfl rfl Tryz.func64 Qb rfl #[.agg #[.int .i64 a0_0, .int .i64 a0_1, .slice A0_2 l0_2.length c0_2]] rfl Qm ?_; (with_reducible refine (sa_.calls k a0_0 a0_1 _ _ l0_2 false _ ?side1 ?side2 A2.out).mono ?_); (case side1 => repeat (first | exact (Kd.re_ HR0_2.out HB.out) | (with_reducible refine Kd.zc_ ?_ _) | (with_reducible refine Kd.ad_ ?_ _) | (with_reducible refine Kd.od_ ?_))); (case side2 => exact HC0_2.out); rintro e w62 ⟨rfl, hb⟩; refine ⟨_, rfl, ?_⟩; have n0_ := ba_.mk (pc_ (g := gb183) (o := .cells #[.int .i64 a0_0, .int .i64 a0_1, .slice A0_2 l0_2.length c0_2] 65 (0, 0)) (Qf BK183.out) hb); have n1_ := ba_.mk (pc_ (g := gb184) (o := .cells #[.slice none 0 0] 60 (0, 0)) (Qf BK184.out) hb); have n2_ := ba_.mk (hb_ Xa hb); clear BK183; clear BK184; clear HB; have BK183 := n0_; have BK184 := n1_; have HB := n2_; clear n0_ n1_ n2_; (try clear hb); (try clear hb2); (try clear hk); (try clear hi); have hcz63_0 : w62.cell? ⟨gb184, 0, none⟩ = some (.slice none 0 0) := (la_ BK184.out 0).trans rfl; have hfz63_0 := ja_ BK184.out 0))
  refine bodyPost_ret (ro_ rfl _ _ gb184 60 #[.slice none 0 0] (0, 0) _ rfl (by (with_reducible repeat (first | refine ia_ ?_ _ | refine ma_ ?_ | refine ha_ ?_ _)); refine sc_ (cs := #[.slice none 0 0]) ?_ 0 _ rfl; (with_reducible repeat (first | refine ia_ ?_ _ | refine ma_ ?_ | refine ha_ ?_ _)); exact BK184.out) Tryz.underlying60 rfl Qb) rfl ?_
  exact ⟨_, Qu, Yo, Xa⟩
 subst c3
 have H1 : (ya_.l0 k (([[], []] : List (List Int))) 30 0 a0_0 a0_1 l0_2) = some (r1, r2) := by rw [if_pos rfl] at H; exact H
 clear H
 have H := H1
 clear H1
 obtain ⟨y186, hy186⟩ : ∃ y_ : List (List Int), y_ = (([[], []] : List (List Int))) := ⟨_, rfl⟩
 replace H : (ya_.l0 k y186 30 0 a0_0 a0_1 l0_2) = some (r1, r2) := by first | (rw [hy186]; with_reducible exact H) | (have H2_ := (Option.bind_some _ _).symm.trans H; rw [hy186]; with_reducible exact H2_) | (have H2_ := (Option.bind_some _ _).symm.trans H; with_reducible exact H2_) | with_reducible exact H | (rw [hy186]; exact H) | exact H
 have Ny186 := ba_.mk hy186
 clear hy186
 have H' := ba_.mk H
 clear H
 go_enter Tryz.func33, Tryz.ntmps33
 go_wp2_with (first | ((with_reducible refine ld_ (N := 1) rfl ?_); refine de_ ?hg (N := 1) ?hd (cs := #[.int .i64 a0_0, .int .i64 a0_1, .slice A0_2 l0_2.length c0_2]) (t := 65) ?hr ?_; (case hd => rfl); (case hg => rfl); (case hr => exact Qt); intro gb183 hg w4 hbox hb; have n0_ := ba_.mk (hb_ Qh hb); have n1_ := ba_.mk (hbox); have n2_ := ba_.mk ((by rw [hg]; exact (pb_ Qh) : w.heap.size ≤ gb183)); have n3_ := ba_.mk ((by rw [hg]; exact (pb_ Qh) : w.heap.size ≤ gb183)); clear HB; have HB := n0_; have BK183 := n1_; have GW183 := n2_; have GE183 := n3_; clear n0_ n1_ n2_ n3_; clear hb hbox hg) | ((with_reducible refine ld_ (N := 2) rfl ?_); refine de_ ?hg (N := 2) ?hd (cs := #[.slice none 0 0]) (t := 60) ?hr ?_; (case hd => rfl); (case hg => rfl); (case hr => exact Qt); intro gb184 hg w5 hbox hb; have n0_ := ba_.mk (pc_ (g := gb183) (o := .cells #[.int .i64 a0_0, .int .i64 a0_1, .slice A0_2 l0_2.length c0_2] 65 (0, 0)) (Qf BK183.out) hb); have n1_ := ba_.mk (hb_ Ya hb); have n2_ := ba_.mk (hbox); have n3_ := ba_.mk ((by rw [hg]; exact (pb_ Ya) : w.heap.size ≤ gb184)); have n4_ := ba_.mk ((by rw [hg]; exact (pb_ Ya) : w.heap.size ≤ gb184)); have n5_ := ba_.mk ((by rw [hg]; exact Nat.ne_of_lt (bg_ (g := gb183) (o := .cells #[.int .i64 a0_0, .int .i64 a0_1, .slice A0_2 l0_2.length c0_2] 65 (0, 0)) (Qf BK183.out)) : gb183 ≠ gb184)); have n6_ := ba_.mk ((by rw [hg]; exact Nat.ne_of_gt (bg_ (g := gb183) (o := .cells #[.int .i64 a0_0, .int .i64 a0_1, .slice A0_2 l0_2.length c0_2] 65 (0, 0)) (Qf BK183.out)) : gb184 ≠ gb183)); clear BK183; clear HB; have BK183 := n0_; have HB := n1_; have BK184 := n2_; have GW184 := n3_; have GE184 := n4_; have NB183_184 := n5_; have NB184_183 := n6_; clear n0_ n1_ n2_ n3_ n4_ n5_ n6_; clear hb hbox hg; have hnb6 := NB183_184.out; have hnc6 := NB184_183.out; have hcz7_0 : w5.cell? ⟨gb183, 0, none⟩ = some (.int .i64 a0_0) := (la_ BK183.out 0).trans rfl; have hcz7_1 : w5.cell? ⟨gb183, 1, none⟩ = some (.int .i64 a0_1) := (la_ BK183.out 1).trans rfl; have hcz7_2 : w5.cell? ⟨gb183, 2, none⟩ = some (.slice A0_2 l0_2.length c0_2) := (la_ BK183.out 2).trans rfl; have hfz7_0 := ja_ BK183.out 0; have hfz7_1 := ja_ BK183.out 1; have hfz7_2 := ja_ BK183.out 2) | ((with_reducible refine va_ (f := 64) rfl ?_); refine lc_ (some 10) rfl rfl Tryz.func64 Qb rfl #[.agg #[.int .i64 a0_0, .int .i64 a0_1, .slice A0_2 l0_2.length c0_2]] rfl Qm ?_; (with_reducible refine (sa_.calls k a0_0 a0_1 _ _ l0_2 true _ ?side1 ?side2 A2.out).mono ?_); (case side1 => repeat (first | exact (Kd.re_ HR0_2.out HB.out) | (with_reducible refine Kd.zc_ ?_ _) | (with_reducible refine Kd.ad_ ?_ _) | (with_reducible refine Kd.od_ ?_))); (case side2 => exact HC0_2.out); rintro e w8 ⟨rfl, hb⟩; refine ⟨_, rfl, ?_⟩; have n0_ := ba_.mk (pc_ (g := gb183) (o := .cells #[.int .i64 a0_0, .int .i64 a0_1, .slice A0_2 l0_2.length c0_2] 65 (0, 0)) (Qf BK183.out) hb); have n1_ := ba_.mk (pc_ (g := gb184) (o := .cells #[.slice none 0 0] 60 (0, 0)) (Qf BK184.out) hb); have n2_ := ba_.mk (hb_ Xa hb); clear BK183; clear BK184; clear HB; have BK183 := n0_; have BK184 := n1_; have HB := n2_; clear n0_ n1_ n2_; (try clear hb); (try clear hb2); (try clear hk); (try clear hi)) | ((with_reducible refine ld_ (N := 13) rfl ?_); refine Kd.S_lit (Kd.slice 3 (Kd.int .i64)) _ 22 ?hg (N := 13) ?hd (xs := ([[], []] : List (List Int))) (inner := [.slice none 0 0, .slice none 0 0]) (ok := fun _ => True) (okp := fun _ => True) ?hr ?hp (fun _ hk => hk) trivial (Below.refl _ _) (Nat.le_refl _) Qj ?_; (case hd => rfl); (case hg => rfl); (case hr => exact Qt); (case hp => exact (Reps.one (show Kd.M (Kd.slice 3 (Kd.int .i64)) _ _ _ [] [.slice none 0 0] from ⟨_, rfl, Kd.vf_ _ _ _ _ _⟩) (Reps.one (show Kd.M (Kd.slice 3 (Kd.int .i64)) _ _ _ [] [.slice none 0 0] from ⟨_, rfl, Kd.vf_ _ _ _ _ _⟩) (Reps.none _ _)))); intro v187 w9 ho10 hb hg_ hnew_; clear hg_ hnew_; (first | rw [← Ny186.out] at ho10 | (simp only [Int.reduceToNat] at ho10; rw [← Ny186.out] at ho10)); have n0_ := ba_.mk (Kd.oi1_ ho10 (pb_ Xa)); have n1_ := ba_.mk (pc_ (g := gb183) (o := .cells #[.int .i64 a0_0, .int .i64 a0_1, .slice A0_2 l0_2.length c0_2] 65 (0, 0)) (Qf BK183.out) hb); have n2_ := ba_.mk (pc_ (g := gb184) (o := .cells #[.slice none 0 0] 60 (0, 0)) (Qf BK184.out) hb); have n3_ := ba_.mk (hb_ Xa hb); clear BK183; clear BK184; clear HB; have HO188 := n0_; have BK183 := n1_; have BK184 := n2_; have HB := n3_; clear n0_ n1_ n2_ n3_; clear hb ho10))
 go_loopg [4, 5, 6] k (fun kq v4 v5 v6 w' => ∃ (x4_1 : List (List Int)) (x5_1 : Int) (x6_1 : Int), v5 = .int .i64 x5_1 ∧ v6 = .int .i64 x6_1 ∧ ba_ (ya_.l0 kq x4_1 x5_1 x6_1 a0_0 a0_1 l0_2 = some (r1, r2)) ∧ ba_ (kq ≤ k) ∧ ba_ (Kd.S (Kd.slice 3 (Kd.int .i64)) 22 w' w.heap.size (fun _ => True) v4 x4_1) ∧ ba_ (w'.heap[gb183]? = some (.cells #[.int .i64 a0_0, .int .i64 a0_1, (.slice A0_2 l0_2.length c0_2)] 65 (0, 0))) ∧ ba_ (w'.heap[gb184]? = some (.cells #[(.slice none 0 0)] 60 (0, 0))) ∧ ba_ (Below w.heap.size w w'))
 case atStart => exact ⟨(y186), (30), (0), Ql, Ql, H', ⟨Nat.le_refl _⟩, ⟨by (with_reducible repeat (first | apply Kd.ye_ | apply Kd.ze_ | apply Kd.ag_)); exact HO188.out⟩, ⟨Yt⟩, ⟨Yu⟩, ⟨Xa⟩⟩
 case round =>
  clear H'
  try clear p2
  try clear c3
  try clear c6
  try clear hcz7_0
  try clear hcz7_1
  try clear hcz7_2
  try clear hfz7_0
  try clear hfz7_1
  try clear hfz7_2
  obtain ⟨x4_1, x5_1, x6_1, rfl, rfl, HA, HK1, HO_4, BK183, BK184, HB⟩ := hrel
  cases gk with
  | zero => exact absurd HA.out (by simp [ya_.l0])
  | succ k1 =>
   have H := HA.out
   clear HA
   simp only [ya_.l0] at H
   by_cases c11 : x6_1 < (l0_2.length : Int)
   ·rw [if_pos c11] at H
    have c11b0 := decide_eq_true c11
    clear c11
    obtain ⟨c12, H⟩ := Qq H
    have c12b0 := decide_eq_true c12
    clear c12
    obtain ⟨t190, A13, H⟩ := Qo H
    try dsimp only at H
    by_cases c14 : t190 > x5_1
    rotate_left
    ·rw [if_neg c14] at H
     have c14b0 : decide (x5_1 < t190) = false := decide_eq_false c14
     clear c14
     obtain ⟨ji31, hji31⟩ : ∃ j_ : Int, (wrap64 ((x4_1.length : Int) - 1)) = j_ := ⟨_, rfl⟩
     replace H : (if 0 ≤ (ji31) then (if (ji31) < (x4_1.length : Int) then (if (kf_ x4_1 (ji31)).length < 17592186044416 then (ya_.l0 k1 (x4_1.set ((ji31) : Int).toNat ((kf_ x4_1 (ji31)) ++ [x6_1])) (wrap64 (x5_1 - t190)) (wrap64 (x6_1 + 1)) a0_0 a0_1 l0_2) else (none)) else (none)) else (none)) = some (r1, r2) := by first | (rw [hji31] at H; exact H) | (simp only [hji31] at H ⊢; exact H)
     (try rw [hji31] at A13)
     have hji31w : (IntKind.i64.wrap ((x4_1.length : Int) - 1)) = ji31 := (yb_ _).trans hji31
     obtain ⟨c32, H⟩ := Qq H
     have c32b0 := decide_eq_true c32
     clear c32
     obtain ⟨c33, H⟩ := Qq H
     have c33b0 := decide_eq_true c33
     clear c33
     by_cases c34 : (kf_ x4_1 (ji31)).length < 17592186044416
     rotate_left
     ·rw [if_neg c34] at H
      exact absurd H Qj
     rw [if_pos c34] at H
     have LMc34 := ba_.mk c34
     clear c34
     obtain ⟨y200, hy200⟩ : ∃ y_ : List Int, y_ = ((kf_ x4_1 (ji31)) ++ [x6_1]) := ⟨_, rfl⟩
     replace H : (ya_.l0 k1 (x4_1.set ((ji31) : Int).toNat y200) (wrap64 (x5_1 - t190)) (wrap64 (x6_1 + 1)) a0_0 a0_1 l0_2) = some (r1, r2) := by first | (rw [hy200]; with_reducible exact H) | (have H2_ := (Option.bind_some _ _).symm.trans H; rw [hy200]; with_reducible exact H2_) | (have H2_ := (Option.bind_some _ _).symm.trans H; with_reducible exact H2_) | with_reducible exact H | (rw [hy200]; exact H) | exact H
     have Ny200 := ba_.mk hy200
     clear hy200
     obtain ⟨y203, hy203⟩ : ∃ y_ : List (List Int), y_ = (x4_1.set ((ji31) : Int).toNat y200) := ⟨_, rfl⟩
     replace H : (ya_.l0 k1 y203 (wrap64 (x5_1 - t190)) (wrap64 (x6_1 + 1)) a0_0 a0_1 l0_2) = some (r1, r2) := by first | (rw [hy203]; with_reducible exact H) | (have H2_ := (Option.bind_some _ _).symm.trans H; rw [hy203]; with_reducible exact H2_) | (have H2_ := (Option.bind_some _ _).symm.trans H; with_reducible exact H2_) | with_reducible exact H | (rw [hy203]; exact H) | exact H
     have Ny203 := ba_.mk hy203
     clear hy203
     have H' := ba_.mk H
     clear H
     have hnb36 := NB183_184.out
     have hnc36 := NB184_183.out
     have hcz37_0 : wr.cell? ⟨gb183, 0, none⟩ = some (.int .i64 a0_0) := (la_ BK183.out 0).trans rfl
     have hcz37_1 : wr.cell? ⟨gb183, 1, none⟩ = some (.int .i64 a0_1) := (la_ BK183.out 1).trans rfl
     have hcz37_2 : wr.cell? ⟨gb183, 2, none⟩ = some (.slice A0_2 l0_2.length c0_2) := (la_ BK183.out 2).trans rfl
     have hfz37_0 := ja_ BK183.out 0
     have hfz37_1 := ja_ BK183.out 1
     have hfz37_2 := ja_ BK183.out 2
     have p189 : 0 ≤ (x6_1 : Int) := of_decide_eq_true Qi
     have q189 : x6_1 < (l0_2.length : Int) := of_decide_eq_true Qi
     obtain ⟨ad189, e189, hx189_0, hx189_1, hx189_2, hx189_3, hx189_4, hx189_5⟩ := eq_ HR0_2.out x6_1 p189 q189
     cases e189
     replace hx189_0 := (HB.out.cell (World.block_lt_of_cell? w _ hx189_0)).trans hx189_0
     replace hx189_1 := (HB.out.cell (World.block_lt_of_cell? w _ hx189_1)).trans hx189_1
     replace hx189_2 := (HB.out.cell (World.block_lt_of_cell? w _ hx189_2)).trans hx189_2
     replace hx189_3 := (HB.out.cell (World.block_lt_of_cell? w _ hx189_3)).trans hx189_3
     replace hx189_4 := (HB.out.cell (World.block_lt_of_cell? w _ hx189_4)).trans hx189_4
     replace hx189_5 := (HB.out.cell (World.block_lt_of_cell? w _ hx189_5)).trans hx189_5
     replace p189 := eq_true p189
     replace q189 := eq_true q189
     go_wp2_with (first | ((with_reducible refine va_ (f := 65) rfl ?_); refine lc_ (some 26) rfl rfl Tryz.func65 Qb rfl #[.agg #[.int .i64 ((hd_ l0_2 x6_1).f0), .int .i64 ((hd_ l0_2 x6_1).f1), .int .i64 ((hd_ l0_2 x6_1).f2), .int .i64 ((hd_ l0_2 x6_1).f3), .int .i64 ((hd_ l0_2 x6_1).f4), .int .i64 ((hd_ l0_2 x6_1).f5)]] rfl Qm ?_; (with_reducible refine (cd_.calls k1 ((hd_ l0_2 x6_1).f0) ((hd_ l0_2 x6_1).f1) ((hd_ l0_2 x6_1).f2) ((hd_ l0_2 x6_1).f3) ((hd_ l0_2 x6_1).f4) ((hd_ l0_2 x6_1).f5) t190 _ A13.out).mono ?_); rintro e w38 ⟨rfl, hb⟩; refine ⟨_, rfl, ?_⟩; have n0_ := ba_.mk (Kd.vm_ (Yn HO_4.out) hb); have n1_ := ba_.mk (pc_ (g := gb183) (o := .cells #[.int .i64 a0_0, .int .i64 a0_1, .slice (some ad189) l0_2.length c0_2] 65 (0, 0)) (Qf BK183.out) hb); have n2_ := ba_.mk (pc_ (g := gb184) (o := .cells #[.slice none 0 0] 60 (0, 0)) (Qf BK184.out) hb); have n3_ := ba_.mk (hb_ Xa hb); clear HO_4; clear BK183; clear BK184; clear HB; have HO_4 := n0_; have BK183 := n1_; have BK184 := n2_; have HB := n3_; clear n0_ n1_ n2_ n3_; (try clear hb); (try clear hb2); (try clear hk); (try clear hi); obtain ⟨Ao39, co39, eo39⟩ := Kd.mk_ HO_4.out; subst eo39; have p199 : 0 ≤ ((ji31) : Int) := of_decide_eq_true Qi; have q199 : (ji31) < (x4_1.length : Int) := of_decide_eq_true Qi; obtain ⟨ad199, A199_0, c199_0, e199, hx199_0, hl199_0, hi199_0⟩ := tz_ (Kd.dk_ HO_4.out).2.2 (ji31) p199 q199; cases e199; obtain ⟨ce199, hce199, hMe199, hcc199⟩ := Kd.S_get HO_4.out [] (ji31) p199 (by first | exact q199 | exact of_decide_eq_true Qi | (have e_ := (Kd.dk_ HO_4.out).1; omega)); obtain ⟨ve199_0, rfl, ge199_0⟩ := hMe199; have hv199_0 := hcc199 0 _ rfl; rw [Nat.add_zero, show ((Kd.slice 3 (Kd.int .i64))).sz = 1 from rfl, Nat.mul_one] at hv199_0; replace hv199_0 := Option.some.inj (hv199_0.symm.trans hx199_0); rw [hv199_0] at ge199_0; have HL199_0 := ba_.mk (show Kd.R (Kd.int .i64) 3 _ _ _ _ (kf_ x4_1 (ji31)) from ge199_0); clear hv199_0 ge199_0; have HX199_0 := ba_.mk hx199_0; clear hcc199 hce199; have HR199_0 := ba_.mk hi199_0; have HC199_0 := ba_.mk hl199_0; clear hi199_0 hl199_0; replace p199 := eq_true p199; replace q199 := eq_true q199; obtain ⟨go40, co40, eo40, gb40, gl40, cl40, HG40⟩ := Kd.th1_ HO_4.out (by have h_ : ((ji31) : Int) < ((x4_1.length : Int) : Int) := of_decide_eq_true Qi; have h2_ : 0 ≤ ((ji31) : Int) := (of_decide_eq_true Qi); omega); (first | cases eo40 | (injection eo40 with ea_ en_ ec_; (first | subst ea_ | (injection ea_ with ea_; subst ea_)); subst ec_; clear en_)); have GB40 := ba_.mk gb40; have GG40 := ba_.mk HG40; clear gb40 gl40 HG40; (first | simp only [add_plain] at hx199_0 | skip); obtain ⟨oki40, ce40, hcl40, hM40, hcc40, _, _, hH40⟩ := Kd.sh1_ HO_4.out [] ((ji31) : Int) (of_decide_eq_true Qi) (by have h_ : ((ji31) : Int) < ((x4_1.length : Int) : Int) := of_decide_eq_true Qi; first | exact h_ | (have e_ := (Kd.dk_ HO_4.out).1; omega) | simpa using h_); obtain ⟨ve40_0, rfl, ge40_0⟩ := hM40; have hv40 := hcc40 0 _ rfl; have hX40 := HX199_0.out; (try simp only [add_plain] at hX40); (try simp only [Nat.add_zero] at hv40); (try rw [show ((Kd.slice 3 (Kd.int .i64))).sz = 1 from rfl, Nat.mul_one] at hv40); replace hv40 := Option.some.inj (hv40.symm.trans hX40); subst hv40; clear hX40 hcc40 hcl40; have UU40 := ba_.mk (show Kd.R (Kd.int .i64) 3 _ w.heap.size oki40 (.slice A199_0 (kf_ x4_1 (ji31)).length c199_0) (kf_ x4_1 (ji31)) from ge40_0); have HH40 := ba_.mk hH40; have HN40 := ba_.mk (Kd.dk_ HO_4.out).1; clear hH40 ge40_0) | ((with_reducible refine md_ (b := .append) (xs := #[.tmp 41, .tmp 43]) rfl ?_); at_builtin; refine Kd.yf_ (Kd.int .i64) (w0 := w) w.heap.size rfl (.tmp 41) (.tmp 43) 22 3 (.int .i64 0) 8 rfl Tryz.underlying22 zh_ rfl Qc Qa (.slice A199_0 (kf_ x4_1 (ji31)).length c199_0) (kf_ x4_1 (ji31)) x6_1 [.int .i64 x6_1] (fun k_ => oki40 k_ ∨ ((fun _ => True)) k_ ∧ w38.heap.size ≤ k_) (fun _ => False) rfl rfl ?aP (fun _ hk => hk.elim) ?aF ?aO ?aB ?aS ?aL ?_; (case aP => exact rfl); (case aB => exact Yz); (case aF => exact (fun k_ hk => .inr ⟨trivial, hk⟩)); (case aO => exact (by (with_reducible repeat (first | apply Kd.bb_ | apply Kd.cb_ | apply Kd.sb_)); exact Kd.fd_ UU40.out (fun _ hk => .inl hk))); (case aS => exact Y0); (case aL => have := LMc34.out; omega); intro v201 w41 ho hb hg hat; rw [← Ny200.out] at ho; have n0_ := ba_.mk (ce_ (g := gb183) (o := .cells #[.int .i64 a0_0, .int .i64 a0_1, .slice (some ad189) l0_2.length c0_2] 65 (0, 0)) (Qf BK183.out) hg (Kd.R_ne HL199_0.out BK183.out Qc)); have n1_ := ba_.mk (ce_ (g := gb184) (o := .cells #[.slice none 0 0] 60 (0, 0)) (Qf BK184.out) hg (Kd.R_ne HL199_0.out BK184.out Qc)); have n2_ := ba_.mk (hb); have n3_ := ba_.mk (Kd.lb1_ (Kd.mb1_ (by repeat (first | exact HH40.out | refine Kd.jb1_ ?_ _ | refine Kd.kb1_ ?_ _ | refine Kd.lh1_ ?_))) hg (fun k_ e_ => .inl (UU40.out.1 k_ e_))); have n4_ := ba_.mk (ho); clear BK183; clear BK184; clear HB; clear HH40; clear HO_4; clear UU40; clear HL199_0; have BK183 := n0_; have BK184 := n1_; have HB := n2_; have HH40 := n3_; have HO202 := n4_; clear n0_ n1_ n2_ n3_ n4_; clear ho hb hg hat; have p35 : 0 ≤ ((ji31) : Int) := of_decide_eq_true Qi; have q35 : ((ji31) : Int) < ((x4_1.length : Int) : Int) := of_decide_eq_true Qi; replace p35 := eq_true p35; replace q35 := eq_true q35; obtain ⟨Ao44, co44, eo44⟩ := Kd.td_ HO202.out; subst eo44; obtain ⟨_, _, hraw42, _, _, hcc42, _⟩ := Kd.te1_ HH40.out (of_decide_eq_true Qi) (by have h_ : ((ji31) : Int) < ((x4_1.length : Int) : Int) := of_decide_eq_true Qi; first | exact h_ | (have e_ := (HN40.out); omega) | simpa using h_); obtain ⟨_, hfr42⟩ := Kd.H_at HH40.out (of_decide_eq_true Qi) (by have h_ : ((ji31) : Int) < ((x4_1.length : Int) : Int) := of_decide_eq_true Qi; first | exact h_ | (have e_ := (HN40.out); omega) | simpa using h_); have hx42_0 := hcc42 0 _ rfl; have hf42_0 := hfr42 0; (try simp only [Nat.add_zero] at hx42_0 hf42_0); (try rw [show ((Kd.slice 3 (Kd.int .i64))).sz = 1 from rfl, Nat.mul_one] at hx42_0); (try rw [show ((Kd.slice 3 (Kd.int .i64))).sz = 1 from rfl, Nat.mul_one] at hf42_0); have HP42 := Kd.uh1_ HH40.out (of_decide_eq_true Qi) (by have h_ : ((ji31) : Int) < ((x4_1.length : Int) : Int) := of_decide_eq_true Qi; first | exact h_ | (have e_ := (HN40.out); omega) | simpa using h_) (seg := [.slice Ao44 y200.length co44]) (j := 0) (show 1 ≤ 1 from by decide) (x' := y200) (Kd.ob1_ HO202.out) (fun _ hk => hk); (try simp only [show ((Kd.slice 3 (Kd.int .i64))).sz = 1 from rfl, Nat.mul_one, Nat.add_zero] at HP42); clear hcc42 hfr42) | ((with_reducible refine zk_ (t := 22) (p := 45) rfl ?_); refine yj_ (t := 22) (p := 45) (v := ?vo_w43) (w1 := (w41.setCell ⟨go40, ((ji31) : Int).toNat, none⟩ (.slice Ao44 y200.length co44))) ?hg ?ho ?hn ?hr ?_; (case ho => rfl); (case hg => rfl); (case hn => rfl); (case hr => exact Qt); intro w43 hw; have hg : w41.grownBy w43 (some go40) := (by rw [hw]; exact HP42.2); have hp_ : Kd.S (Kd.slice 3 (Kd.int .i64)) 22 w43 w.heap.size (fun _ => True) (.slice (some ⟨go40, 0, none⟩) x4_1.length co39) y203 := (by rw [hw, Ny203.out]; exact HP42.1); clear HP42; have n0_ := ba_.mk (ce_ (g := gb183) (o := .cells #[.int .i64 a0_0, .int .i64 a0_1, .slice (some ad189) l0_2.length c0_2] 65 (0, 0)) (Qf BK183.out) hg (Kd.R_ne hraw42 BK183.out Qc)); have n1_ := ba_.mk (ce_ (g := gb184) (o := .cells #[.slice none 0 0] 60 (0, 0)) (Qf BK184.out) hg (Kd.R_ne hraw42 BK184.out Qc)); have n2_ := ba_.mk ((by rw [hw]; exact fa_ HB.out GB40.out : Below w.heap.size w w43)); have n3_ := ba_.mk (hp_); clear BK183; clear BK184; clear HB; clear HO202; clear HH40; have BK183 := n0_; have BK184 := n1_; have HB := n2_; have HO_4 := n3_; clear n0_ n1_ n2_ n3_; clear hg hw hp_ hraw42))
     go_roundg k1
     case measure => have := HK1.out; omega
     case rel => exact ⟨(y203), (wrap64 (x5_1 - t190)), (wrap64 (x6_1 + 1)), Ql, Ql, H', ⟨Xf⟩, ⟨by (with_reducible repeat (first | apply Kd.ye_ | apply Kd.ze_ | apply Kd.ag_)); exact HO_4.out⟩, ⟨Yt⟩, ⟨Yu⟩, ⟨Xa⟩⟩
    rw [if_pos c14] at H
    have c14b0 : decide (x5_1 < t190) = true := decide_eq_true c14
    clear c14
    obtain ⟨c15, H⟩ := Qq H
    have LMc15 := ba_.mk c15
    clear c15
    obtain ⟨y191, hy191⟩ : ∃ y_ : List (List Int), y_ = (x4_1 ++ [[]]) := ⟨_, rfl⟩
    replace H : (if 0 ≤ (wrap64 ((y191.length : Int) - 1)) then (if (wrap64 ((y191.length : Int) - 1)) < (y191.length : Int) then (if (kf_ y191 (wrap64 ((y191.length : Int) - 1))).length < 17592186044416 then (ya_.l0 k1 (y191.set ((wrap64 ((y191.length : Int) - 1)) : Int).toNat ((kf_ y191 (wrap64 ((y191.length : Int) - 1))) ++ [x6_1])) (wrap64 (30 - t190)) (wrap64 (x6_1 + 1)) a0_0 a0_1 l0_2) else (none)) else (none)) else (none)) = some (r1, r2) := by first | (rw [hy191]; with_reducible exact H) | (have H2_ := (Option.bind_some _ _).symm.trans H; rw [hy191]; with_reducible exact H2_) | (have H2_ := (Option.bind_some _ _).symm.trans H; with_reducible exact H2_) | with_reducible exact H | (rw [hy191]; exact H) | exact H
    have Ny191 := ba_.mk hy191
    clear hy191
    obtain ⟨ji16, hji16⟩ : ∃ j_ : Int, (wrap64 ((y191.length : Int) - 1)) = j_ := ⟨_, rfl⟩
    replace H : (if 0 ≤ (ji16) then (if (ji16) < (y191.length : Int) then (if (kf_ y191 (ji16)).length < 17592186044416 then (ya_.l0 k1 (y191.set ((ji16) : Int).toNat ((kf_ y191 (ji16)) ++ [x6_1])) (wrap64 (30 - t190)) (wrap64 (x6_1 + 1)) a0_0 a0_1 l0_2) else (none)) else (none)) else (none)) = some (r1, r2) := by first | (rw [hji16] at H; exact H) | (simp only [hji16] at H ⊢; exact H)
    (try rw [hji16] at A13)
    have hji16w : (IntKind.i64.wrap ((y191.length : Int) - 1)) = ji16 := (yb_ _).trans hji16
    obtain ⟨c17, H⟩ := Qq H
    have c17b0 := decide_eq_true c17
    clear c17
    obtain ⟨c18, H⟩ := Qq H
    have c18b0 := decide_eq_true c18
    clear c18
    obtain ⟨c19, H⟩ := Qq H
    have LMc19 := ba_.mk c19
    clear c19
    obtain ⟨y195, hy195⟩ : ∃ y_ : List Int, y_ = ((kf_ y191 (ji16)) ++ [x6_1]) := ⟨_, rfl⟩
    replace H : (ya_.l0 k1 (y191.set ((ji16) : Int).toNat y195) (wrap64 (30 - t190)) (wrap64 (x6_1 + 1)) a0_0 a0_1 l0_2) = some (r1, r2) := by first | (rw [hy195]; with_reducible exact H) | (have H2_ := (Option.bind_some _ _).symm.trans H; rw [hy195]; with_reducible exact H2_) | (have H2_ := (Option.bind_some _ _).symm.trans H; with_reducible exact H2_) | with_reducible exact H | (rw [hy195]; exact H) | exact H
    have Ny195 := ba_.mk hy195
    clear hy195
    obtain ⟨y198, hy198⟩ : ∃ y_ : List (List Int), y_ = (y191.set ((ji16) : Int).toNat y195) := ⟨_, rfl⟩
    replace H : (ya_.l0 k1 y198 (wrap64 (30 - t190)) (wrap64 (x6_1 + 1)) a0_0 a0_1 l0_2) = some (r1, r2) := by first | (rw [hy198]; with_reducible exact H) | (have H2_ := (Option.bind_some _ _).symm.trans H; rw [hy198]; with_reducible exact H2_) | (have H2_ := (Option.bind_some _ _).symm.trans H; with_reducible exact H2_) | with_reducible exact H | (rw [hy198]; exact H) | exact H
    have Ny198 := ba_.mk hy198
    clear hy198
    have H' := ba_.mk H
    clear H
    have hnb21 := NB183_184.out
    have hnc21 := NB184_183.out
    have hcz22_0 : wr.cell? ⟨gb183, 0, none⟩ = some (.int .i64 a0_0) := (la_ BK183.out 0).trans rfl
    have hcz22_1 : wr.cell? ⟨gb183, 1, none⟩ = some (.int .i64 a0_1) := (la_ BK183.out 1).trans rfl
    have hcz22_2 : wr.cell? ⟨gb183, 2, none⟩ = some (.slice A0_2 l0_2.length c0_2) := (la_ BK183.out 2).trans rfl
    have hfz22_0 := ja_ BK183.out 0
    have hfz22_1 := ja_ BK183.out 1
    have hfz22_2 := ja_ BK183.out 2
    have p189 : 0 ≤ (x6_1 : Int) := of_decide_eq_true Qi
    have q189 : x6_1 < (l0_2.length : Int) := of_decide_eq_true Qi
    obtain ⟨ad189, e189, hx189_0, hx189_1, hx189_2, hx189_3, hx189_4, hx189_5⟩ := eq_ HR0_2.out x6_1 p189 q189
    cases e189
    replace hx189_0 := (HB.out.cell (World.block_lt_of_cell? w _ hx189_0)).trans hx189_0
    replace hx189_1 := (HB.out.cell (World.block_lt_of_cell? w _ hx189_1)).trans hx189_1
    replace hx189_2 := (HB.out.cell (World.block_lt_of_cell? w _ hx189_2)).trans hx189_2
    replace hx189_3 := (HB.out.cell (World.block_lt_of_cell? w _ hx189_3)).trans hx189_3
    replace hx189_4 := (HB.out.cell (World.block_lt_of_cell? w _ hx189_4)).trans hx189_4
    replace hx189_5 := (HB.out.cell (World.block_lt_of_cell? w _ hx189_5)).trans hx189_5
    replace p189 := eq_true p189
    replace q189 := eq_true q189
    go_wp2_with (first | ((with_reducible refine va_ (f := 65) rfl ?_); refine lc_ (some 26) rfl rfl Tryz.func65 Qb rfl #[.agg #[.int .i64 ((hd_ l0_2 x6_1).f0), .int .i64 ((hd_ l0_2 x6_1).f1), .int .i64 ((hd_ l0_2 x6_1).f2), .int .i64 ((hd_ l0_2 x6_1).f3), .int .i64 ((hd_ l0_2 x6_1).f4), .int .i64 ((hd_ l0_2 x6_1).f5)]] rfl Qm ?_; (with_reducible refine (cd_.calls k1 ((hd_ l0_2 x6_1).f0) ((hd_ l0_2 x6_1).f1) ((hd_ l0_2 x6_1).f2) ((hd_ l0_2 x6_1).f3) ((hd_ l0_2 x6_1).f4) ((hd_ l0_2 x6_1).f5) t190 _ A13.out).mono ?_); rintro e w23 ⟨rfl, hb⟩; refine ⟨_, rfl, ?_⟩; have n0_ := ba_.mk (Kd.vm_ (Yn HO_4.out) hb); have n1_ := ba_.mk (pc_ (g := gb183) (o := .cells #[.int .i64 a0_0, .int .i64 a0_1, .slice (some ad189) l0_2.length c0_2] 65 (0, 0)) (Qf BK183.out) hb); have n2_ := ba_.mk (pc_ (g := gb184) (o := .cells #[.slice none 0 0] 60 (0, 0)) (Qf BK184.out) hb); have n3_ := ba_.mk (hb_ Xa hb); clear HO_4; clear BK183; clear BK184; clear HB; have HO_4 := n0_; have BK183 := n1_; have BK184 := n2_; have HB := n3_; clear n0_ n1_ n2_ n3_; (try clear hb); (try clear hb2); (try clear hk); (try clear hi)) | ((with_reducible refine md_ (b := .append) (xs := #[.tmp 30, .tmp 31]) rfl ?_); at_builtin; refine Kd.jn_ (Kd.slice 3 (Kd.int .i64)) (w0 := w) w.heap.size rfl (.tmp 30) (.tmp 31) 33 22 (.slice none 0 0) 24 rfl Tryz.underlying33 uq_ rfl Qc Qa u4 x4_1 [] [.slice none 0 0] (fun _ => True) (fun _ => False) rfl rfl ?aP (fun _ hk => hk.elim) ?aF ?aO ?aB ?aS ?aL ?_; (case aP => exact ⟨_, rfl, Kd.vf_ _ _ _ _ _⟩); (case aB => exact Yz); (case aF => exact Xn); (case aO => exact (by (with_reducible repeat (first | apply Kd.ye_ | apply Kd.ze_ | apply Kd.ag_)); exact Kd.uk_ HO_4.out (fun k_ hk => ⟨trivial, fun e_ => e_⟩))); (case aS => exact Y0); (case aL => have := LMc15.out; omega); intro v192 w24 ho hb hg hat; rw [← Ny191.out] at ho; have n0_ := ba_.mk (ce_ (g := gb183) (o := .cells #[.int .i64 a0_0, .int .i64 a0_1, .slice (some ad189) l0_2.length c0_2] 65 (0, 0)) (Qf BK183.out) hg (Kd.S_ne HO_4.out BK183.out Qc)); have n1_ := ba_.mk (ce_ (g := gb184) (o := .cells #[.slice none 0 0] 60 (0, 0)) (Qf BK184.out) hg (Kd.S_ne HO_4.out BK184.out Qc)); have n2_ := ba_.mk (hb); have n3_ := ba_.mk (ho); clear BK183; clear BK184; clear HB; clear HO_4; have BK183 := n0_; have BK184 := n1_; have HB := n2_; have HO193 := n3_; clear n0_ n1_ n2_ n3_; clear ho hb hg hat; obtain ⟨Ao25, co25, eo25⟩ := Kd.mk_ HO193.out; subst eo25; have p194 : 0 ≤ ((ji16) : Int) := of_decide_eq_true Qi; have q194 : (ji16) < (y191.length : Int) := of_decide_eq_true Qi; obtain ⟨ad194, A194_0, c194_0, e194, hx194_0, hl194_0, hi194_0⟩ := tz_ (Kd.dk_ HO193.out).2.2 (ji16) p194 q194; cases e194; obtain ⟨ce194, hce194, hMe194, hcc194⟩ := Kd.S_get HO193.out [] (ji16) p194 (by first | exact q194 | exact of_decide_eq_true Qi | (have e_ := (Kd.dk_ HO193.out).1; omega)); obtain ⟨ve194_0, rfl, ge194_0⟩ := hMe194; have hv194_0 := hcc194 0 _ rfl; rw [Nat.add_zero, show ((Kd.slice 3 (Kd.int .i64))).sz = 1 from rfl, Nat.mul_one] at hv194_0; replace hv194_0 := Option.some.inj (hv194_0.symm.trans hx194_0); rw [hv194_0] at ge194_0; have HL194_0 := ba_.mk (show Kd.R (Kd.int .i64) 3 _ _ _ _ (kf_ y191 (ji16)) from ge194_0); clear hv194_0 ge194_0; have HX194_0 := ba_.mk hx194_0; clear hcc194 hce194; have HR194_0 := ba_.mk hi194_0; have HC194_0 := ba_.mk hl194_0; clear hi194_0 hl194_0; replace p194 := eq_true p194; replace q194 := eq_true q194; obtain ⟨go26, co26, eo26, gb26, gl26, cl26, HG26⟩ := Kd.th1_ HO193.out (by have h_ : ((ji16) : Int) < ((y191.length : Int) : Int) := of_decide_eq_true Qi; have h2_ : 0 ≤ ((ji16) : Int) := (of_decide_eq_true Qi); omega); (first | cases eo26 | (injection eo26 with ea_ en_ ec_; (first | subst ea_ | (injection ea_ with ea_; subst ea_)); subst ec_; clear en_)); have GB26 := ba_.mk gb26; have GG26 := ba_.mk HG26; clear gb26 gl26 HG26; (first | simp only [add_plain] at hx194_0 | skip); obtain ⟨oki26, ce26, hcl26, hM26, hcc26, _, _, hH26⟩ := Kd.sh1_ HO193.out [] ((ji16) : Int) (of_decide_eq_true Qi) (by have h_ : ((ji16) : Int) < ((y191.length : Int) : Int) := of_decide_eq_true Qi; first | exact h_ | (have e_ := (Kd.dk_ HO193.out).1; omega) | simpa using h_); obtain ⟨ve26_0, rfl, ge26_0⟩ := hM26; have hv26 := hcc26 0 _ rfl; have hX26 := HX194_0.out; (try simp only [add_plain] at hX26); (try simp only [Nat.add_zero] at hv26); (try rw [show ((Kd.slice 3 (Kd.int .i64))).sz = 1 from rfl, Nat.mul_one] at hv26); replace hv26 := Option.some.inj (hv26.symm.trans hX26); subst hv26; clear hX26 hcc26 hcl26; have UU26 := ba_.mk (show Kd.R (Kd.int .i64) 3 _ w.heap.size oki26 (.slice A194_0 (kf_ y191 (ji16)).length c194_0) (kf_ y191 (ji16)) from ge26_0); have HH26 := ba_.mk hH26; have HN26 := ba_.mk (Kd.dk_ HO193.out).1; clear hH26 ge26_0) | ((with_reducible refine md_ (b := .append) (xs := #[.tmp 41, .tmp 43]) rfl ?_); at_builtin; refine Kd.yf_ (Kd.int .i64) (w0 := w) w.heap.size rfl (.tmp 41) (.tmp 43) 22 3 (.int .i64 0) 8 rfl Tryz.underlying22 zh_ rfl Qc Qa (.slice A194_0 (kf_ y191 (ji16)).length c194_0) (kf_ y191 (ji16)) x6_1 [.int .i64 x6_1] (fun k_ => oki26 k_ ∨ ((fun _ => True)) k_ ∧ w24.heap.size ≤ k_) (fun _ => False) rfl rfl ?aP (fun _ hk => hk.elim) ?aF ?aO ?aB ?aS ?aL ?_; (case aP => exact rfl); (case aB => exact Yz); (case aF => exact (fun k_ hk => .inr ⟨trivial, hk⟩)); (case aO => exact (by (with_reducible repeat (first | apply Kd.bb_ | apply Kd.cb_ | apply Kd.sb_)); exact Kd.fd_ UU26.out (fun _ hk => .inl hk))); (case aS => exact Y0); (case aL => have := LMc19.out; omega); intro v196 w27 ho hb hg hat; rw [← Ny195.out] at ho; have n0_ := ba_.mk (ce_ (g := gb183) (o := .cells #[.int .i64 a0_0, .int .i64 a0_1, .slice (some ad189) l0_2.length c0_2] 65 (0, 0)) (Qf BK183.out) hg (Kd.R_ne HL194_0.out BK183.out Qc)); have n1_ := ba_.mk (ce_ (g := gb184) (o := .cells #[.slice none 0 0] 60 (0, 0)) (Qf BK184.out) hg (Kd.R_ne HL194_0.out BK184.out Qc)); have n2_ := ba_.mk (hb); have n3_ := ba_.mk (Kd.lb1_ (Kd.mb1_ (by repeat (first | exact HH26.out | refine Kd.jb1_ ?_ _ | refine Kd.kb1_ ?_ _ | refine Kd.lh1_ ?_))) hg (fun k_ e_ => .inl (UU26.out.1 k_ e_))); have n4_ := ba_.mk (ho); clear BK183; clear BK184; clear HB; clear HH26; clear HO193; clear UU26; clear HL194_0; have BK183 := n0_; have BK184 := n1_; have HB := n2_; have HH26 := n3_; have HO197 := n4_; clear n0_ n1_ n2_ n3_ n4_; clear ho hb hg hat; have p20 : 0 ≤ ((ji16) : Int) := of_decide_eq_true Qi; have q20 : ((ji16) : Int) < ((y191.length : Int) : Int) := of_decide_eq_true Qi; replace p20 := eq_true p20; replace q20 := eq_true q20; obtain ⟨Ao30, co30, eo30⟩ := Kd.td_ HO197.out; subst eo30; obtain ⟨_, _, hraw28, _, _, hcc28, _⟩ := Kd.te1_ HH26.out (of_decide_eq_true Qi) (by have h_ : ((ji16) : Int) < ((y191.length : Int) : Int) := of_decide_eq_true Qi; first | exact h_ | (have e_ := (HN26.out); omega) | simpa using h_); obtain ⟨_, hfr28⟩ := Kd.H_at HH26.out (of_decide_eq_true Qi) (by have h_ : ((ji16) : Int) < ((y191.length : Int) : Int) := of_decide_eq_true Qi; first | exact h_ | (have e_ := (HN26.out); omega) | simpa using h_); have hx28_0 := hcc28 0 _ rfl; have hf28_0 := hfr28 0; (try simp only [Nat.add_zero] at hx28_0 hf28_0); (try rw [show ((Kd.slice 3 (Kd.int .i64))).sz = 1 from rfl, Nat.mul_one] at hx28_0); (try rw [show ((Kd.slice 3 (Kd.int .i64))).sz = 1 from rfl, Nat.mul_one] at hf28_0); have HP28 := Kd.uh1_ HH26.out (of_decide_eq_true Qi) (by have h_ : ((ji16) : Int) < ((y191.length : Int) : Int) := of_decide_eq_true Qi; first | exact h_ | (have e_ := (HN26.out); omega) | simpa using h_) (seg := [.slice Ao30 y195.length co30]) (j := 0) (show 1 ≤ 1 from by decide) (x' := y195) (Kd.ob1_ HO197.out) (fun _ hk => hk); (try simp only [show ((Kd.slice 3 (Kd.int .i64))).sz = 1 from rfl, Nat.mul_one, Nat.add_zero] at HP28); clear hcc28 hfr28) | ((with_reducible refine zk_ (t := 22) (p := 45) rfl ?_); refine yj_ (t := 22) (p := 45) (v := ?vo_w29) (w1 := (w27.setCell ⟨go26, ((ji16) : Int).toNat, none⟩ (.slice Ao30 y195.length co30))) ?hg ?ho ?hn ?hr ?_; (case ho => rfl); (case hg => rfl); (case hn => rfl); (case hr => exact Qt); intro w29 hw; have hg : w27.grownBy w29 (some go26) := (by rw [hw]; exact HP28.2); have hp_ : Kd.S (Kd.slice 3 (Kd.int .i64)) 22 w29 w.heap.size (fun _ => True) (.slice (some ⟨go26, 0, none⟩) y191.length co25) y198 := (by rw [hw, Ny198.out]; exact HP28.1); clear HP28; have n0_ := ba_.mk (ce_ (g := gb183) (o := .cells #[.int .i64 a0_0, .int .i64 a0_1, .slice (some ad189) l0_2.length c0_2] 65 (0, 0)) (Qf BK183.out) hg (Kd.R_ne hraw28 BK183.out Qc)); have n1_ := ba_.mk (ce_ (g := gb184) (o := .cells #[.slice none 0 0] 60 (0, 0)) (Qf BK184.out) hg (Kd.R_ne hraw28 BK184.out Qc)); have n2_ := ba_.mk ((by rw [hw]; exact fa_ HB.out GB26.out : Below w.heap.size w w29)); have n3_ := ba_.mk (hp_); clear BK183; clear BK184; clear HB; clear HO197; clear HH26; have BK183 := n0_; have BK184 := n1_; have HB := n2_; have HO193 := n3_; clear n0_ n1_ n2_ n3_; clear hg hw hp_ hraw28))
    go_roundg k1
    case measure => have := HK1.out; omega
    case rel => exact ⟨(y198), (wrap64 (30 - t190)), (wrap64 (x6_1 + 1)), Ql, Ql, H', ⟨Xf⟩, ⟨by (with_reducible repeat (first | apply Kd.ye_ | apply Kd.ze_ | apply Kd.ag_)); exact HO193.out⟩, ⟨Yt⟩, ⟨Yu⟩, ⟨Xa⟩⟩
   rw [if_neg c11] at H
   have c11b0 := decide_eq_false c11
   clear c11
   have H' := ba_.mk H
   clear H
   have hnb45 := NB183_184.out
   have hnc45 := NB184_183.out
   have hcz46_0 : wr.cell? ⟨gb183, 0, none⟩ = some (.int .i64 a0_0) := (la_ BK183.out 0).trans rfl
   have hcz46_1 : wr.cell? ⟨gb183, 1, none⟩ = some (.int .i64 a0_1) := (la_ BK183.out 1).trans rfl
   have hcz46_2 : wr.cell? ⟨gb183, 2, none⟩ = some (.slice A0_2 l0_2.length c0_2) := (la_ BK183.out 2).trans rfl
   have hfz46_0 := ja_ BK183.out 0
   have hfz46_1 := ja_ BK183.out 1
   have hfz46_2 := ja_ BK183.out 2
   go_wp2
   go_loopg [4] k1 (fun kq v4 w' => ∃ (x4_2 : List (List Int)), ba_ (ya_.l1 kq x4_2 = some (r1, r2)) ∧ ba_ (kq ≤ k1) ∧ ba_ (Kd.S (Kd.slice 3 (Kd.int .i64)) 22 w' w.heap.size (fun _ => True) v4 x4_2) ∧ ba_ (w'.heap[gb183]? = some (.cells #[.int .i64 a0_0, .int .i64 a0_1, (.slice A0_2 l0_2.length c0_2)] 65 (0, 0))) ∧ ba_ (w'.heap[gb184]? = some (.cells #[(.slice none 0 0)] 60 (0, 0))) ∧ ba_ (Below w.heap.size w w'))
   case atStart => exact ⟨(x4_1), H', ⟨Nat.le_refl _⟩, ⟨by (with_reducible repeat (first | apply Kd.ye_ | apply Kd.ze_ | apply Kd.ag_)); exact HO_4.out⟩, ⟨Yt⟩, ⟨Yu⟩, ⟨Xa⟩⟩
   case round =>
    clear H'
    try clear c1
    try clear p1
    try clear q1
    try clear hx1
    try clear c2
    try clear p2
    try clear q2
    try clear hx2
    try clear hf2
    try clear c3
    try clear p3
    try clear q3
    try clear c4
    try clear hx4
    try clear hf4
    try clear c6
    try clear p6
    try clear c11
    try clear c11b0
    try clear c12
    try clear c12b0
    try clear c14
    try clear c14b0
    try clear c15
    try clear c17
    try clear c17b0
    try clear c18
    try clear c18b0
    try clear p18
    try clear q18
    try clear hx18
    try clear c19
    try clear p19
    try clear q19
    try clear hx19
    try clear p20
    try clear q20
    try clear c21
    try clear c26
    try clear c28
    try clear hx28
    try clear hf28
    try clear c32
    try clear c32b0
    try clear c33
    try clear c33b0
    try clear c34
    try clear p35
    try clear q35
    try clear c36
    try clear c40
    try clear c42
    try clear hx42
    try clear hf42
    try clear c45
    try clear hcz22_0
    try clear hcz22_1
    try clear hcz22_2
    try clear hcz37_0
    try clear hcz37_1
    try clear hcz37_2
    try clear hcz46_0
    try clear hcz46_1
    try clear hcz46_2
    try clear hcz7_0
    try clear hcz7_1
    try clear hcz7_2
    try clear hfz22_0
    try clear hfz22_1
    try clear hfz22_2
    try clear hfz37_0
    try clear hfz37_1
    try clear hfz37_2
    try clear hfz46_0
    try clear hfz46_1
    try clear hfz46_2
    try clear hfz7_0
    try clear hfz7_1
    try clear hfz7_2
    try clear hx189_0
    try clear hx189_1
    try clear hx189_2
    try clear hx189_3
    try clear hx189_4
    try clear hx189_5
    try clear hx194_0
    try clear hx199_0
    try clear hx28_0
    try clear hx42_0
    try clear p189
    try clear p194
    try clear p199
    try clear p2
    try clear p20
    try clear p35
    try clear q189
    try clear q194
    try clear q199
    try clear q20
    try clear q35
    obtain ⟨x4_2, HA, HK2, HO_4, BK183, BK184, HB⟩ := hrel
    cases gk with
    | zero => exact absurd HA.out (by simp [ya_.l1])
    | succ k2 =>
     have H := HA.out
     clear HA
     simp only [ya_.l1] at H
     by_cases c47 : ((x4_2.length : Int) % 4) = 0
     rotate_left
     ·rw [if_neg c47] at H
      have c47b0 : (((x4_2.length : Int) % 4) == 0) = false := beq_eq_false_iff_ne.mpr c47
      have c47b1 : (((x4_2.length : Int) % 4) != 0) = true := bne_iff_ne.mpr c47
      by_cases c55 : x4_2.length < 5864062014805
      rotate_left
      ·rw [if_neg c55] at H
       exact absurd H Qj
      rw [if_pos c55] at H
      have LMc55 := ba_.mk c55
      clear c55
      obtain ⟨y204, hy204⟩ : ∃ y_ : List (List Int), y_ = (x4_2 ++ [[]]) := ⟨_, rfl⟩
      replace H : (ya_.l1 k2 y204) = some (r1, r2) := by first | (rw [hy204]; with_reducible exact H) | (have H2_ := (Option.bind_some _ _).symm.trans H; rw [hy204]; with_reducible exact H2_) | (have H2_ := (Option.bind_some _ _).symm.trans H; with_reducible exact H2_) | with_reducible exact H | (rw [hy204]; exact H) | exact H
      have Ny204 := ba_.mk hy204
      clear hy204
      have H' := ba_.mk H
      clear H
      obtain ⟨Ao56, co56, eo56⟩ := Kd.mk_ HO_4.out
      subst eo56
      go_wp2_with (first | ((with_reducible refine md_ (b := .append) (xs := #[.tmp 53, .tmp 54]) rfl ?_); at_builtin; refine Kd.jn_ (Kd.slice 3 (Kd.int .i64)) (w0 := w) w.heap.size rfl (.tmp 53) (.tmp 54) 33 22 (.slice none 0 0) 24 rfl Tryz.underlying33 uq_ rfl Qc Qa (.slice Ao56 x4_2.length co56) x4_2 [] [.slice none 0 0] (fun _ => True) (fun _ => False) rfl rfl ?aP (fun _ hk => hk.elim) ?aF ?aO ?aB ?aS ?aL ?_; (case aP => exact ⟨_, rfl, Kd.vf_ _ _ _ _ _⟩); (case aB => exact Yz); (case aF => exact Xn); (case aO => exact (by (with_reducible repeat (first | apply Kd.ye_ | apply Kd.ze_ | apply Kd.ag_)); exact Kd.uk_ HO_4.out (fun k_ hk => ⟨trivial, fun e_ => e_⟩))); (case aS => exact Y0); (case aL => have := LMc55.out; omega); intro v205 w57 ho hb hg hat; rw [← Ny204.out] at ho; have n0_ := ba_.mk (ce_ (g := gb183) (o := .cells #[.int .i64 a0_0, .int .i64 a0_1, .slice A0_2 l0_2.length c0_2] 65 (0, 0)) (Qf BK183.out) hg (Kd.S_ne HO_4.out BK183.out Qc)); have n1_ := ba_.mk (ce_ (g := gb184) (o := .cells #[.slice none 0 0] 60 (0, 0)) (Qf BK184.out) hg (Kd.S_ne HO_4.out BK184.out Qc)); have n2_ := ba_.mk (hb); have n3_ := ba_.mk (ho); clear BK183; clear BK184; clear HB; clear HO_4; have BK183 := n0_; have BK184 := n1_; have HB := n2_; have HO206 := n3_; clear n0_ n1_ n2_ n3_; clear ho hb hg hat))
      go_roundg k2
      case measure => exact Q7
      case rel => exact ⟨(y204), H', ⟨Q8⟩, ⟨by (with_reducible repeat (first | apply Kd.ye_ | apply Kd.ze_ | apply Kd.ag_)); exact HO206.out⟩, ⟨Yt⟩, ⟨Yu⟩, ⟨Xa⟩⟩
     rw [if_pos c47] at H
     have c47b0 : (((x4_2.length : Int) % 4) == 0) = true := beq_iff_eq.mpr c47
     have c47b1 : (((x4_2.length : Int) % 4) != 0) = false := bne_eq_false_iff_eq.mpr c47
     clear c47
     by_cases c48 : (x4_2.length : Int) > 12
     ·rw [if_pos c48] at H
      have c48b0 : decide (12 < (x4_2.length : Int)) = true := decide_eq_true c48
      have c48b1 : decide (12 < x4_2.length) = true := decide_eq_true Qa
      clear c48
      simp only [Option.some.injEq, Prod.mk.injEq] at H
      obtain ⟨rfl, rfl⟩ := H
      obtain ⟨Ao49, co49, eo49⟩ := Kd.mk_ HO_4.out
      subst eo49
      have hnb50 := NB184_183.out
      have hnc50 := NB183_184.out
      have hcz51_0 : wr.cell? ⟨gb184, 0, none⟩ = some (.slice none 0 0) := (la_ BK184.out 0).trans rfl
      have hfz51_0 := ja_ BK184.out 0
      go_wp2
      refine bodyPost_ret (ro_ rfl _ _ gb184 60 #[.slice none 0 0] (0, 0) _ rfl (by (with_reducible repeat (first | refine ia_ ?_ _ | refine ma_ ?_ | refine ha_ ?_ _)); refine sc_ (cs := #[.slice none 0 0]) ?_ 0 _ rfl; (with_reducible repeat (first | refine ia_ ?_ _ | refine ma_ ?_ | refine ha_ ?_ _)); exact BK184.out) Tryz.underlying60 rfl Qb) rfl ?_
      exact ⟨_, Qu, Yo, Xa⟩
     rw [if_neg c48] at H
     have c48b0 : decide (12 < (x4_2.length : Int)) = false := decide_eq_false c48
     have c48b1 : decide (12 < x4_2.length) = false := decide_eq_false Qa
     clear c48
     simp only [Option.some.injEq, Prod.mk.injEq] at H
     obtain ⟨rfl, rfl⟩ := H
     obtain ⟨Ao52, co52, eo52⟩ := Kd.mk_ HO_4.out
     subst eo52
     have hnb53 := NB184_183.out
     have hnc53 := NB183_184.out
     have hcz54_0 : wr.cell? ⟨gb184, 0, none⟩ = some (.slice none 0 0) := (la_ BK184.out 0).trans rfl
     have hfz54_0 := ja_ BK184.out 0
     go_wp2
     refine bodyPost_ret (ro_ rfl _ _ gb184 60 #[.slice Ao52 x4_2.length co52] (0, 0) _ rfl (by (with_reducible repeat (first | refine ia_ ?_ _ | refine ma_ ?_ | refine ha_ ?_ _)); refine sc_ (cs := #[.slice none 0 0]) ?_ 0 _ rfl; (with_reducible repeat (first | refine ia_ ?_ _ | refine ma_ ?_ | refine ha_ ?_ _)); exact BK184.out) Tryz.underlying60 rfl Qb) rfl ?_
     exact ⟨_, Qu, by (with_reducible repeat (first | apply Kd.ye_ | apply Kd.ze_ | apply Kd.ag_)); exact Kd.uk_ (Kd.S_far (p := ⟨gb184, 0, none⟩) (Kd.pi1_ HO_4.out BK184.out Qc) (fun _ hk => hk.2) (.slice Ao52 x4_2.length co52)) (fun _ hk => trivial), Xa⟩
end Go.Proofs.YtpkhgapifnjbeaaGreatDoor.TL
end
