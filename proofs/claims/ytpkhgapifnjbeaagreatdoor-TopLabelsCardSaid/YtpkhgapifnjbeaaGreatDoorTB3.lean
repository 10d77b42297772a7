/- Put together by pack2.py. -/
import Derived.Test.YtpkhgapifnjbeaaGreatDoorProg
import Derived.Below
import Derived.Deep.Draws
import Derived.Deep.AppendLies
import Derived.Maps.AppendAt
import Derived.OwnWalk
import Derived.Laws.BytesArg
import Derived.Laws.MakeOwn
import Derived.Laws.OwnMore
import Derived.Deep.OwnRows
import Derived.Tactics
import Derived.Lib.ConvBytes
import Derived.Laws.Slices
import Derived.WalkKit
import Derived.KernelRfl
import Derived.RowKit3
import Derived.Deep.LoopGhost
import Derived.Deep.QuietTactic
import Derived.BigQuiet
import Derived.WideLaws
import Derived.Deep.DeepCutAuto
import Derived.Deep.CutBlock
import Derived.Deep.RegionHeld3
import Derived.Laws.Rows
import Derived.Lib.AppendStr
import Derived.ArgAppend
import Derived.Laws.IdiomCopy
import Derived.OrdersHeld
import Derived.Laws.BitsLemmas
import Derived.RowKit
import Derived.WalkSpells
import Derived.Stop.BytesEq
import Derived.Shelf.Strings.Builder1
import Derived.Shelf.Strings.Builder2
import Derived.Shelf.Strings.Trim
import Derived.Shelf.Small.Utf8
import Derived.Shelf.Small.Strs
import Derived.Shelf.Strings.BuilderF
import Derived.Shelf.Utf8.RuneCount
import Derived.Shelf.Strings.Search1
import Derived.Shelf.Strings.Search2
import Derived.Shelf.Strings.Search3
import Derived.Shelf.Strings.Count
import Derived.Shelf.LaysM
import Derived.Shelf.Strings.Shaped
import Derived.Shelf.Strings.Prefix
import Derived.Shelf.Strings.Split
import Derived.Shelf.Unicode.Decode
import Derived.Shelf.Strings.Runes
import Derived.Shelf.Strings.RuneCount
import Derived.Shelf.Strings.AsciiSet
import Derived.Shelf.Bits.Mul64
import Derived.Shelf.Strings.Repeat
import Derived.Shelf.Unicode.DecodeSlow
import Derived.Shelf.Unicode.DecodeAny
import Derived.Shelf.Unicode.DecodeLast
import Derived.Ground.Names2Prog
import Derived.Shelf.Slices.Clone
import Derived.Ground.SlgnProg
import Derived.Shelf.SlicesE.Clone
import Derived.Shelf.Strings.SlTrimAscii
import Derived.Shelf.SlicesE.Reverse
import Derived.Laws.IdiomStrings
import Derived.Lib.OwnBridge
import Derived.Lib.HexFns2
import Derived.Test.YtpkhgapifnjbeaaGreatDoorTB2
set_option linter.unusedVariables false
set_option linter.unusedSimpArgs false
section
namespace Go.Proofs.YtpkhgapifnjbeaaGreatDoor.G
open RowKit Rs
theorem fa1_ (a b : Nat) (f : Nat → GF) : gsum (a + b) f = gsum a f + gsum b (fun k => f (a + k)) := by
 induction b with
 | zero => exact (GF.add_zero _).symm
 | succ b ih =>
  show gsum (a + b) f + f (a + b) = gsum a f + (gsum b (fun k => f (a + k)) + f (a + b))
  rw [ih, GF.add_assoc]
theorem rf1_ (n : Nat) (f : Nat → GF) : gsum n (fun k => f (n - 1 - k)) = gsum n f := by
 induction n with
 | zero => rfl
 | succ n ih =>
  rw [lm_]
  show f (n + 1 - 1 - 0) + _ = gsum n f + f n
  rw [GF.add_comm, ← ih, show n + 1 - 1 - 0 = n from by omega]
  congr 1
  exact id_ fun k hk => by rw [show n + 1 - 1 - (k + 1) = n - 1 - k from by omega]
def errP (w c : List Int) (i : Nat) : Bool := decide (0 ≤ w.getD i 0) && decide (w.getD i 0 ≠ c.getD i 0)
theorem jm_ {w c : List Int} {i : Nat} : errP w c i = true ↔ 0 ≤ w.getD i 0 ∧ w.getD i 0 ≠ c.getD i 0 := by
 unfold errP; simp only [Bool.and_eq_true, decide_eq_true_eq]
def errL (w c : List Int) : List Int := posN (errP w c) w.length
theorem pn_ (w c : List Int) : (errL w c).length = errN w c w.length := (pp_ w c w.length).symm
theorem op_ (w c : List Int) (i : Nat) : (i : Int) ∈ errL w c ↔ i < w.length ∧ errP w c i = true := by
 unfold errL
 rw [jg_]
 constructor
 ·rintro ⟨j, h1, h2, h3⟩
  rw [show i = j from by omega]; exact ⟨h1, h2⟩
 ·rintro ⟨h1, h2⟩; exact ⟨i, h1, h2, rfl⟩
theorem ay_ (n : Nat) (a b : List Int) (k : Nat) (hk : k < a.length) : XP n (a ++ b) k = XP n a k := by
 unfold XP PS
 rw [List.getD_eq_getElem?_getD, List.getElem?_append_left hk, ← List.getD_eq_getElem?_getD]
theorem by_ (n : Nat) (a b : List Int) (k : Nat) : XP n (a ++ b) (a.length + k) = XP n b k := by
 unfold XP PS
 rw [List.getD_eq_getElem?_getD, List.getElem?_append_right Qa, Nat.add_sub_cancel_left, ← List.getD_eq_getElem?_getD]
theorem ue1_ (a b : List Int) (k : Nat) : PS (a ++ b) (a.length + k) = PS b k := by
 unfold PS
 rw [List.getD_eq_getElem?_getD, List.getElem?_append_right Qa, Nat.add_sub_cancel_left, ← List.getD_eq_getElem?_getD]
theorem qi1_ {w c : List Int} (h : (eraN w w.length).length + (errL w c).length ≤ 6) : bf_ w.length (eraN w w.length ++ errL w c) := by
 refine vp_ (by rw [List.length_append]; exact h) (List.nodup_append.2 ⟨by rw [hi_]; exact qj_ _ _, qj_ _ _, fun a ha b hb e => ?_⟩) fun x hx => ?_
 ·obtain ⟨i, h1, h2, rfl⟩ := (jg_ _).1 hb
  rw [e] at ha
  have := ((lo_ w i).1 ha).2
  have := (jm_.1 h2).1
  omega
 rcases List.mem_append.1 hx with hx | hx
 ·rw [hi_] at hx
  obtain ⟨i, h1, _, rfl⟩ := (jg_ _).1 hx
  omega
 obtain ⟨i, h1, _, rfl⟩ := (jg_ _).1 hx
 omega
theorem lu_ {w c : List Int} (hl : c.length = w.length) : ∀ i, i < w.length → (∀ k, k < (eraN w w.length ++ errL w c).length → PS (eraN w w.length ++ errL w c) k ≠ i) → c.getD i 0 = w.getD i 0 := by
 intro i hi hk
 have hm : (i : Int) ∉ eraN w w.length ++ errL w c := fun hm => by obtain ⟨k, a, b⟩ := bs_ hm; exact hk k a b
 have h1 : (i : Int) ∉ eraN w w.length := fun q => hm (List.mem_append_left _ q)
 have h2 : (i : Int) ∉ errL w c := fun q => hm (List.mem_append_right _ q)
 have h3 : ¬ w.getD i 0 < 0 := fun q => h1 ((lo_ w i).2 ⟨hi, q⟩)
 exact Classical.byContradiction fun q => h2 ((op_ w c i).2 ⟨hi, jm_.2 ⟨Qa, fun e => q e.symm⟩⟩)
section
variable {w c : List Int}
theorem me1_ (hw : isWord w (-1) = true) (h : Near w c) (j : Nat) (hj : j < 6) :
  psum w (j + 1) w.length = gsum (eraN w w.length).length (fun s => (vG (w.getD (PS (eraN w w.length) s) 0) + vG (c.getD (PS (eraN w w.length) s) 0)) * GF.pw (XP w.length (eraN w w.length) s) (j + 1))
   + gsum (errL w c).length (fun t => (vG (w.getD (PS (errL w c) t) 0) + vG (c.getD (PS (errL w c) t) 0)) * GF.pw (XP w.length (errL w c) t) (j + 1)) := by
 have hn := h.near
 have hD : bf_ w.length (eraN w w.length ++ errL w c) := qi1_ (by rw [pn_]; omega)
 have e := yn_ (c := c) hD h.len (lu_ h.len) (j + 1)
 rw [(fh_ h.code).2 j hj, GF.add_zero, List.length_append, fa1_] at e
 rw [e]
 congr 1
 ·refine id_ fun s hs => ?_
  rw [ay_ _ _ _ _ hs]
  congr 3 <;> (unfold PS; rw [List.getD_eq_getElem?_getD (l := eraN w w.length ++ errL w c), List.getElem?_append_left hs, ← List.getD_eq_getElem?_getD])
 refine id_ fun t ht => ?_
 rw [by_, ue1_]
def pr_ (w c : List Int) (t : Nat) : GF := (vG (w.getD (PS (errL w c) t) 0) + vG (c.getD (PS (errL w c) t) 0)) * (XP w.length (errL w c) t * prodX (XP w.length (eraN w w.length)) (XP w.length (errL w c) t) (eraN w w.length).length)
theorem fz_ (X : Nat → GF) (o j : Nat) (a z : GF) : gsum (o + 1) (fun k => pc X o k * (a * GF.pw z (j + o - k + 1))) = a * (z * prodX X z o) * GF.pw z j := by
 rw [← mk1_ X z o]
 have : a * (z * gsum (o + 1) (fun k => pc X o k * GF.pw z (o - k))) * GF.pw z j = (a * z * GF.pw z j) * gsum (o + 1) (fun k => pc X o k * GF.pw z (o - k)) := by ac_rfl
 rw [this, ← ji_]
 refine id_ fun k hk => ?_
 rw [show j + o - k + 1 = (j + (o - k)) + 1 from by omega, yd1_, GF.ps_]
 ac_rfl
theorem ge1_ (hw : isWord w (-1) = true) (h : Near w c) (j : Nat) (hj : j + (eraN w w.length).length < 6) :
  tr_ w (eraN w w.length) j = gsum (errL w c).length (fun t => pr_ w c t * GF.pw (XP w.length (errL w c) t) j) := by
 obtain ⟨o, ho⟩ : ∃ o, o = (eraN w w.length).length := ⟨_, rfl⟩
 obtain ⟨X, hX⟩ : ∃ X, X = XP w.length (eraN w w.length) := ⟨_, rfl⟩
 obtain ⟨Z, hZ⟩ : ∃ Z, Z = XP w.length (errL w c) := ⟨_, rfl⟩
 obtain ⟨a, ha⟩ : ∃ a : Nat → GF, a = fun s => vG (w.getD (PS (eraN w w.length) s) 0) + vG (c.getD (PS (eraN w w.length) s) 0) := ⟨_, rfl⟩
 obtain ⟨b, hb⟩ : ∃ b : Nat → GF, b = fun t => vG (w.getD (PS (errL w c) t) 0) + vG (c.getD (PS (errL w c) t) 0) := ⟨_, rfl⟩
 have hs : ∀ j, j < 6 → psum w (j + 1) w.length = gsum o (fun s => a s * GF.pw (X s) (j + 1)) + gsum (errL w c).length (fun t => b t * GF.pw (Z t) (j + 1)) := by
  intro j hj
  rw [me1_ hw h j hj, ho, hX, hZ, ha, hb]
 unfold tr_ xv_
 rw [← ho, ← hX]
 have e1 : gsum (o + 1) (fun k => pc X o k * psum w (j + o - k + 1) w.length) = gsum (o + 1) (fun k => gsum o (fun s => pc X o k * (a s * GF.pw (X s) (j + o - k + 1)))) + gsum (o + 1) (fun k => gsum (errL w c).length (fun t => pc X o k * (b t * GF.pw (Z t) (j + o - k + 1)))) := by
  rw [← jl_]
  refine id_ fun k hk => ?_
  rw [hs (j + o - k) Qa, GF.mul_add, ji_, ji_]
 rw [e1, un_, un_ (o + 1)]
 rw [id_ (n := o) (g := fun _ => 0) (fun s hs' => by
  rw [fz_ X o j (a s) (X s), (mm_ X (X s) o).2 ⟨s, hs', rfl⟩, GF.mul_zero, GF.mul_zero, GF.zero_mul]), cj_, GF.zero_add]
 refine id_ fun t ht => ?_
 rw [fz_ X o j (b t) (Z t)]
 unfold pr_
 rw [hb, hZ, hX, ← ho]
theorem my_ (h : Near w c) : bf_ w.length (errL w c) := az_ (by have := h.near; have := pn_ w c; unfold errL at this; omega)
theorem cf1_ (hw : isWord w (-1) = true) (h : Near w c) (t : Nat) (ht : t < (errL w c).length) : pr_ w c t ≠ 0 := by
 obtain ⟨w1, w2, w3⟩ := jf_ hw
 have hn := h.near
 have hD := my_ h
 have hm := xy_ hD.1 ht
 obtain ⟨h1, h2⟩ := (op_ w c _).1 hm
 obtain ⟨h3, h4⟩ := jm_.1 h2
 unfold pr_
 refine GF.mul_ne_zero (fun e => h4 ?_) (GF.mul_ne_zero (ve1_ _ _ _) fun e => ?_)
 ·have h5 := GF.aj_ e
  have e1 : isEl (w.getD (PS (errL w c) t) 0) = true := (le_ _).2 (by have := w3 _ (rg_ h1); omega)
  have e2 : isEl (c.getD (PS (errL w c) t) 0) = true := jo_ h.code _ (by rw [h.len]; exact h1)
  rw [← ap_ e1, h5, ap_ e2]
 obtain ⟨s, hs, e2⟩ := (mm_ _ _ _).1 e
 have hA : bf_ w.length (eraN w w.length ++ errL w c) := qi1_ (by rw [pn_]; omega)
 have := cy_ (l := w) w2 hA ((eraN w w.length).length + t) s (by rw [List.length_append]; omega) (by rw [List.length_append]; omega) (by rw [by_, ay_ _ _ _ _ hs]; exact e2)
 omega
end
end Go.Proofs.YtpkhgapifnjbeaaGreatDoor.G
end
section
namespace Go.Proofs.YtpkhgapifnjbeaaGreatDoor.G
open RowKit Rs
theorem ex_neg (m : Nat) : GF.ex ((-(m : Int)) % 31).toNat * GF.ex m = 1 := by
 rw [← GF.sc1_, GF.wu_, show ((-(m : Int)) % 31).toNat + m = 31 * ((((-(m : Int)) % 31).toNat + m) / 31) from by omega, Nat.mul_mod_right]
 rfl
theorem ga1_ {a b u : GF} (h1 : a * u = 1) (h2 : b * u = 1) : a = b := by
 have : a * (b * u) = b * (a * u) := by ac_rfl
 rwa [h1, h2, GF.mul_one, GF.mul_one] at this
theorem ui1_ {n : Nat} (hn : n ≤ 100) {i : Nat} (hi : i < n) (k : Nat) (hk : k ≤ 100) (y : GF) (hy : y * GF.ex (n - 1 - i) = 1) : atI n (i : Int) (-(k : Int) - 1) = ofG (GF.pw y (k + 1)) := by
 unfold atI powI
 have e1 : wrap64 ((n : Int) - 1) = ((n - 1 : Nat) : Int) := by unfold wrap64; omega
 have e2 : wrap64 (((n - 1 : Nat) : Int) - (i : Int)) = ((n - 1 - i : Nat) : Int) := rz_ _ _ Qa Qa
 have hb : (k + 1) * (n - 1 - i) ≤ 101 * 100 := Nat.mul_le_mul Qa Qa
 have e4 : (-(k : Int) - 1) * ((n - 1 - i : Nat) : Int) = -(((k + 1) * (n - 1 - i) : Nat) : Int) := by
  rw [Int.natCast_mul, ← Int.neg_mul]; congr 1; omega
 rw [e1, e2, e4]
 generalize hm : (k + 1) * (n - 1 - i) = m at hb
 have e3 : wrap64 (-(m : Int)) = -(m : Int) := by unfold wrap64; omega
 rw [e3]
 congr 1
 refine ga1_ (ex_neg m) ?_
 rw [← hm, kj1_, ← GF.ei1_, hy, GF.rv_]
theorem ci1_ (m : Nat) : GF.inv (GF.ex m) * GF.ex m = 1 := by rw [GF.mul_comm]; exact GF.qd1_ _ (GF.ls_ m)
section
variable {w c : List Int}
theorem vand_A (hw : isWord w (-1) = true) (h : Near w c) (D : Nat → GF) (hD : ∀ j, j < (errL w c).length → gsum (errL w c).length (fun t => (pr_ w c t * D t) * GF.pw (XP w.length (errL w c) t) j) = 0) : ∀ t, t < (errL w c).length → D t = 0 := by
 obtain ⟨w1, w2, w3⟩ := jf_ hw
 intro t ht
 have := vand (errL w c).length (XP w.length (errL w c)) (fun t => pr_ w c t * D t) 0 (fun _ _ => ve1_ _ _ _) (cy_ (l := w) w2 (my_ h)) (fun j hj => by
  rw [← hD j hj]; exact id_ fun t ht => by rw [Nat.zero_add]) t ht
 exact (GF.mul_eq_zero _ _ this).elim (fun q => absurd q (cf1_ hw h t ht)) id
theorem yv_ (hw : isWord w (-1) = true) (h : Near w c) (y : Nat → GF) (j : Nat) (e : Nat) (he : e = (errL w c).length) (hj : j + e + (eraN w w.length).length ≤ 6) :
  gsum e (fun k => tr_ w (eraN w w.length) (j + e - 1 - k) * y k) = gsum e (fun t => (pr_ w c t * gsum e (fun k => y k * GF.pw (XP w.length (errL w c) t) (e - 1 - k))) * GF.pw (XP w.length (errL w c) t) j) := by
 rw [id_ (n := e) (g := fun k => gsum e (fun t => pr_ w c t * GF.pw (XP w.length (errL w c) t) (j + e - 1 - k) * y k)) (fun k hk => by
  rw [ge1_ hw h _ Qa, ← he, km_])]
 rw [un_]
 refine id_ fun t ht => ?_
 have : pr_ w c t * gsum e (fun k => y k * GF.pw (XP w.length (errL w c) t) (e - 1 - k)) * GF.pw (XP w.length (errL w c) t) j = (pr_ w c t * GF.pw (XP w.length (errL w c) t) j) * gsum e (fun k => y k * GF.pw (XP w.length (errL w c) t) (e - 1 - k)) := by ac_rfl
 rw [this, ← ji_]
 refine id_ fun k hk => ?_
 rw [show j + e - 1 - k = j + (e - 1 - k) from by omega, GF.ps_]
 ac_rfl
theorem tp_ (w ps : List Int) (t : Nat) (ht : t < 6 - ps.length) : (in_ w ps).getD t 0 = ofG (tr_ w ps t) := by
 unfold in_; rw [jh_ _ t _ ht]
theorem dx_ (w ps : List Int) (n R i k : Nat) (hi : i < R) (hR : R + n + ps.length ≤ 6) (hn : 1 ≤ n) : toG (ig_ (matL (in_ w ps) n R) i k) = if k < n then tr_ w ps (i + n - 1 - k) else if k = n then tr_ w ps (i + n) else 0 := by
 rw [md1_ _ n R i k hi]
 by_cases h1 : k < n
 ·rw [if_pos h1, if_pos h1, tp_ _ _ _ Qa, th_]
 rw [if_neg h1, if_neg h1]
 by_cases h2 : k = n
 ·rw [if_pos h2, if_pos h2, tp_ _ _ _ Qa, th_]
 ·rw [if_neg h2, if_neg h2]; rfl
theorem ek1_ (w ps : List Int) (n R : Nat) (hR : R + n + ps.length ≤ 6) (hn : 1 ≤ n) : ElM R (n + 1) (ig_ (matL (in_ w ps) n R)) := by
 intro i k hi hk
 rw [md1_ _ n R i k hi]
 split
 ·rw [tp_ _ _ _ Qa]; exact kh_ _
 split
 ·rw [tp_ _ _ _ Qa]; exact kh_ _
 ·rfl
theorem kd1_ (hw : isWord w (-1) = true) (h : Near w c) (e R : Nat) (he : e = (errL w c).length) (h1 : 1 ≤ e) (hR : R + e + (eraN w w.length).length ≤ 6) (heR : e ≤ R) : Indep R e (ig_ (matL (in_ w (eraN w w.length)) e R)) := by
 obtain ⟨w1, w2, w3⟩ := jf_ hw
 intro y hy
 have hD := vand_A hw h (fun t => gsum e (fun k => y k * GF.pw (XP w.length (errL w c) t) (e - 1 - k))) (fun j hj => by
  rw [← he] at hj ⊢
  rw [← yv_ hw h y j e he Qa, ← hy j Qa]
  exact id_ fun k hk => by rw [dx_ _ _ _ _ _ _ Qa Qa h1, if_pos hk])
 have hr := roots e (XP w.length (errL w c)) (fun _ _ => ve1_ _ _ _) (by rw [he]; exact cy_ (l := w) w2 (my_ h)) (fun k => y (e - 1 - k)) (fun t ht => by
  rw [← hD t Qa, ← rf1_]
  exact id_ fun k hk => by rw [show e - 1 - (e - 1 - k) = k from by omega])
 intro k hk
 have : y (e - 1 - (e - 1 - k)) = 0 := hr (e - 1 - k) Qa
 rwa [show e - 1 - (e - 1 - k) = k from by omega] at this
theorem ak1_ (hw : isWord w (-1) = true) (h : Near w c) (e R : Nat) (he : e = (errL w c).length) (h1 : 1 ≤ e) (hR : R + e + (eraN w w.length).length ≤ 6) : SolM R e (ig_ (matL (in_ w (eraN w w.length)) e R)) (fun k => pc (XP w.length (errL w c)) e (k + 1)) := by
 intro i hi
 rw [id_ (n := e) (g := fun k => tr_ w (eraN w w.length) (i + e - 1 - k) * pc (XP w.length (errL w c)) e (k + 1)) (fun k hk => by rw [dx_ _ _ _ _ _ _ hi hR h1, if_pos hk])]
 rw [dx_ _ _ _ _ _ _ hi hR h1, if_neg Qa, if_pos rfl, yv_ hw h _ i e he Qa, ge1_ hw h (i + e) Qa, ← he]
 refine id_ fun t ht => ?_
 have hz : gsum e (fun k => pc (XP w.length (errL w c)) e (k + 1) * GF.pw (XP w.length (errL w c) t) (e - 1 - k)) = GF.pw (XP w.length (errL w c) t) e := by
  have := mk1_ (XP w.length (errL w c)) (XP w.length (errL w c) t) e
  rw [(mm_ _ _ e).2 ⟨t, ht, rfl⟩, lm_, wq_, GF.one_mul, Nat.sub_zero] at this
  rw [GF.aj_ this]
  exact id_ fun k hk => by rw [show e - 1 - k = e - (k + 1) from by omega]
 rw [hz, GF.ps_]
 ac_rfl
theorem sum_eq (n : Nat) (hn : n ≤ 100) (L : List Int) (Z : Nat → GF) (e i : Nat) (he : e ≤ 10) (hi : i < n) (hL : ∀ k, k < e → L.getD k 0 = ofG (pc Z e (k + 1))) : ∀ q, q ≤ e → sumI n L i q = ofG (1 + gsum q (fun k => pc Z e (k + 1) * GF.pw (GF.inv (GF.ex (n - 1 - i))) (k + 1))) := by
 intro q
 induction q with
 | zero => intro _; simp only [sumI, gsum]; rfl
 | succ q ih =>
  intro hq
  simp only [sumI, gsum]
  rw [ih Qa, hL q Qa, ui1_ hn hi q Qa _ (ci1_ _), yt_, fm_, GF.add_assoc]
theorem xg1_ (n : Nat) (hn : n ≤ 100) (L : List Int) (Z : Nat → GF) (e i : Nat) (he : e ≤ 10) (hi : i < n) (hL : ∀ k, k < e → L.getD k 0 = ofG (pc Z e (k + 1))) : sumI n L i e = 0 ↔ ∃ t, t < e ∧ GF.ex (n - 1 - i) = Z t := by
 rw [sum_eq n hn L Z e i he hi hL e (Nat.le_refl _), cn_, ← mm_, ← mk1_]
 have hxy := ci1_ (n - 1 - i)
 have e1 : 1 + gsum e (fun k => pc Z e (k + 1) * GF.pw (GF.inv (GF.ex (n - 1 - i))) (k + 1)) = gsum (e + 1) (fun k => pc Z e k * GF.pw (GF.ex (n - 1 - i)) (e - k)) * GF.pw (GF.inv (GF.ex (n - 1 - i))) e := by
  rw [← km_]
  have : ∀ k, k < e + 1 → pc Z e k * GF.pw (GF.ex (n - 1 - i)) (e - k) * GF.pw (GF.inv (GF.ex (n - 1 - i))) e = pc Z e k * GF.pw (GF.inv (GF.ex (n - 1 - i))) k := by
   intro k hk
   have h2 : GF.pw (GF.inv (GF.ex (n - 1 - i))) e = GF.pw (GF.inv (GF.ex (n - 1 - i))) (e - k) * GF.pw (GF.inv (GF.ex (n - 1 - i))) k := by rw [← GF.ps_]; congr 1; omega
   have h3 : GF.pw (GF.ex (n - 1 - i)) (e - k) * GF.pw (GF.inv (GF.ex (n - 1 - i))) (e - k) = 1 := by rw [← GF.ei1_, GF.mul_comm, hxy, GF.rv_]
   rw [h2]
   have : pc Z e k * GF.pw (GF.ex (n - 1 - i)) (e - k) * (GF.pw (GF.inv (GF.ex (n - 1 - i))) (e - k) * GF.pw (GF.inv (GF.ex (n - 1 - i))) k) = pc Z e k * (GF.pw (GF.ex (n - 1 - i)) (e - k) * GF.pw (GF.inv (GF.ex (n - 1 - i))) (e - k)) * GF.pw (GF.inv (GF.ex (n - 1 - i))) k := by ac_rfl
   rw [this, h3, GF.mul_one]
  rw [id_ this, lm_, wq_]
  congr 1
  exact (GF.mul_one _).symm
 rw [e1]
 refine ⟨fun q => (GF.mul_eq_zero _ _ q).elim id fun q => absurd q (GF.oo_ (fun q2 => ?_) _), fun q => by rw [q, GF.zero_mul]⟩
 rw [q2, GF.zero_mul] at hxy
 exact GF.one_ne_zero hxy.symm
theorem pa1_ {P Q : Nat → Bool} {m : Nat} (h : ∀ i, i < m → P i = Q i) : posN P m = posN Q m := by
 induction m with
 | zero => rfl
 | succ m ih => simp only [posN]; rw [ih (fun i hi => h i Qa), h m Qa]
theorem kv_ (hw : isWord w (-1) = true) (h : Near w c) : locR w (eraN w w.length) (errN w c w.length) = (errL w c, true) := by
 obtain ⟨w1, w2, w3⟩ := jf_ hw
 have hn := h.near
 obtain ⟨e, he⟩ : ∃ e, e = (errL w c).length := ⟨_, rfl⟩
 have he2 : errN w c w.length = e := by rw [he, pn_]
 rw [he2] at hn ⊢
 unfold locR
 by_cases h0 : e = 0
 ·rw [if_pos h0, List.eq_nil_of_length_eq_zero (show (errL w c).length = 0 from by omega)]
 rw [if_neg h0]
 obtain ⟨R, hR⟩ : ∃ R, R = 6 - (eraN w w.length).length - e := ⟨_, rfl⟩
 rw [← hR]
 obtain ⟨s1, s2⟩ := ys_ (ek1_ w (eraN w w.length) e R Qa Qa) (kd1_ hw h e R he Qa Qa Qa) (ak1_ hw h e R he Qa Qa)
 have hlen := eu_ s1
 unfold jv_
 rw [if_pos s1]
 obtain ⟨L, hL⟩ : ∃ L, L = (solR R e (ig_ (matL (in_ w (eraN w w.length)) e R))).1 := ⟨_, rfl⟩
 rw [← hL] at s2 hlen ⊢
 have hP : posN (locP w L) w.length = errL w c := by
  refine pa1_ fun i hi => ?_
  rw [Bool.eq_iff_iff, jm_]
  unfold locP
  simp only [Bool.and_eq_true, decide_eq_true_eq]
  rw [hlen, xg1_ w.length Qa L (XP w.length (errL w c)) e i Qa hi s2]
  have hD := my_ h
  constructor
  ·rintro ⟨a, t, ht, hx⟩
   have h2 := hD.lt (l := w) (k := t) Qa
   have := GF.ai1_ Qa Qa hx
   have h3 : PS (errL w c) t = i := by omega
   have h4 := xy_ hD.1 (k := t) Qa
   rw [h3] at h4
   exact jm_.1 ((op_ w c i).1 h4).2
  intro hE
  obtain ⟨t, ht, hx⟩ := bs_ ((op_ w c i).2 ⟨hi, jm_.2 hE⟩)
  exact ⟨Qa, t, Qa, by unfold XP; rw [hx]⟩
 rw [hP, ← he]
 simp
end
end Go.Proofs.YtpkhgapifnjbeaaGreatDoor.G
end
section
namespace Go.Proofs.YtpkhgapifnjbeaaGreatDoor.D
open RowKit G Rs Zw.PrintWords Zw.PrintLast Zw.PrintMore
attribute [local go_sem] pd_ rd_ yd_ zd_ dd_ ed_ qd_ sd_
def errW : Option Int → Value
 | none => .nilIface
 | some c => .iface 0 (.int .i64 c)
theorem ib_ : errW none = .nilIface := rfl
theorem jb_ (c : Int) : errW (some c) = .iface 0 (.int .i64 c) := rfl
theorem zh_ : (Tryz.prog.info? 3).map (fun i => (i.zero, i.size, i.bytes)) = some (some (.int .i64 0), 1, 8) := by kernel_rfl
end Go.Proofs.YtpkhgapifnjbeaaGreatDoor.D
end
section
namespace Go.Proofs.YtpkhgapifnjbeaaGreatDoor.D
open RowKit G Rs Zw.PrintWords Zw.PrintLast Zw.PrintMore
attribute [local go_sem] pd_ rd_ yd_ zd_ dd_ ed_ qd_ sd_
mutual
def ic_.l0 : Nat → List Int → List Int → List Int → Int → Int → Option (List Int × Int × Int)
 | 0, _, _, _, _, _ => none
 | k + 1, x0, x5, x15, x16, x17 => if x17 < x16 then (if 0 ≤ x17 then (if x17 < (x15.length : Int) then (if (rd x15 x17) = (-1) then (if x5.length < 17592186044416 then (ic_.l0 k x0 (x5 ++ [x17]) x15 x16 (wrap64 (x17 + 1))) else (none)) else (ic_.l0 k x0 x5 x15 x16 (wrap64 (x17 + 1)))) else (none)) else (none)) else (ic_.l1 k x0 x5 0)
def ic_.l1 : Nat → List Int → List Int → Int → Option (List Int × Int × Int)
 | 0, _, _, _ => none
 | k + 1, x0, x5, x8 => if (wrap64 ((wrap64 (2 * x8)) + (x5.length : Int))) ≤ 6 then ((ax_.f x0 x5 x8).bind fun bt110 => (if bt110.2 = true then ((rq_.f x5 bt110.1).bind fun t114 => ((fk_.f x0 t114).bind fun t117 => (if (t117.length : Int) > 0 then (if 0 ≤ (wrap64 ((x0.length : Int) - 6)) then (if (wrap64 ((x0.length : Int) - 6)) ≤ (t117.length : Int) then (some ((t117.take ((wrap64 ((x0.length : Int) - 6)) : Int).toNat), x8, 0)) else (none)) else (none)) else (ic_.l1 k x0 x5 (wrap64 (x8 + 1)))))) else (ic_.l1 k x0 x5 (wrap64 (x8 + 1))))) else (some (([] : List Int), 0, 25))
end
def ic_.f (k : Nat) (l0 : List Int) : Option (List Int × Int × Int) := (di_.f l0 (-1)).bind fun t105 => (if t105 = true then (ic_.l0 k l0 ([] : List Int) l0 (l0.length : Int) 0) else (some (([] : List Int), 0, 2)))
theorem ic_.nd_ : ∀ k, (∀ y0 y1 y2 y3 y4, LeO (ic_.l0 k y0 y1 y2 y3 y4) (ic_.l0 (k + 1) y0 y1 y2 y3 y4)) ∧ (∀ y0 y1 y2, LeO (ic_.l1 k y0 y1 y2) (ic_.l1 (k + 1) y0 y1 y2))
 | 0 => ⟨fun _ _ _ _ _ r h => by simp [ic_.l0] at h, fun _ _ _ r h => by simp [ic_.l1] at h⟩
 | k + 1 => by
  obtain ⟨ih0, ih1⟩ := ic_.nd_ k
  refine ⟨?_, ?_⟩
  ·intro y0 y1 y2 y3 y4
   unfold ic_.l0
   exact Qr
  intro y0 y1 y2
  unfold ic_.l1
  exact Qr
theorem ic_.mono : ∀ a0 k, LeO (ic_.f k a0) (ic_.f (k + 1) a0) := by
 intro a0 k
 obtain ⟨ih0, ih1⟩ := ic_.nd_ k
 unfold ic_.f
 exact Qr
set_option maxHeartbeats 8000000 in
set_option maxRecDepth 100000 in
theorem ic_.calls (k : Nat) (A0 : Option Addr) (c0 : Nat) (l0 : List Int) (r1 : List Int) (r2 : Int) (r3 : Int) (w : World) (hr0 : Kd.C (Kd.int .i64) w A0 l0.length l0) (hc0 : l0.length ≤ c0) (h : ic_.f k l0 = some (r1, r2, r3)) :
  Calls Tryz.prog 46 #[.slice A0 l0.length c0] w fun e w' => ∃ v0_ : Value, e = .returned (.tuple #[v0_, .int .i64 r2, .int .i64 r3]) ∧ Kd.R (Kd.int .i64) 3 w' w.heap.size (fun _ => True) v0_ r1 ∧ Below w.heap.size w w' := by
 have HR0 := ba_.mk hr0
 have HC0 := ba_.mk hc0
 clear hr0 hc0
 have HB := ba_.mk (Below.refl w.heap.size w)
 have qN : ∀ (w : World) (a : Option Addr) (n c n' c' : Nat), (binOp .neq 22 (.slice a n c) (.slice none n' c')).run Tryz.prog w = .ok (.bool (!a.isNone)) w := fun w a n c n' c' => run_neq_slice_nil_any w _ _ a n c n' c' Tryz.underlying22
 have H : ((di_.f l0 (-1)).bind fun t105 => (if t105 = true then (ic_.l0 k l0 ([] : List Int) l0 (l0.length : Int) 0) else (some (([] : List Int), 0, 2)))) = some (r1, r2, r3) := h
 clear h
 obtain ⟨t105, A2, H⟩ := Qo H
 try dsimp only at H
 by_cases c3 : t105 = true
 rotate_left
 ·replace c3 := Bool.eq_false_iff.mpr c3
  subst c3
  have H1 : (some (([] : List Int), 0, 2)) = some (r1, r2, r3) := by rw [if_neg (show ¬ (false = true) by decide)] at H; exact H
  clear H
  have H := H1
  clear H1
  simp only [Option.some.injEq, Prod.mk.injEq] at H
  obtain ⟨rfl, rfl, rfl⟩ := H
  go_enter Tryz.func46, Tryz.ntmps46
  go_wp2_with (first | ((with_reducible refine va_ (f := 44) rfl ?_); refine lc_ (some 13) rfl rfl Tryz.func44 Qb rfl #[.slice A0 l0.length c0, .int .i64 (-1)] rfl Qm ?_; (with_reducible refine (di_.calls _ _ l0 (-1) false _ ?side1 ?side2 A2.out).mono ?_); (case side1 => exact X1); (case side2 => exact HC0.out); rintro e w38 ⟨rfl, hb⟩; refine ⟨_, rfl, ?_⟩; have n0_ := ba_.mk (hb_ Qh hb); clear HB; have HB := n0_; clear n0_; (try clear hb); (try clear hb2); (try clear hk); (try clear hi)))
  go_ret3
  exact ⟨_, Qu, Q9, Qh⟩
 subst c3
 have H1 : (ic_.l0 k l0 ([] : List Int) l0 (l0.length : Int) 0) = some (r1, r2, r3) := by rw [if_pos rfl] at H; exact H
 clear H
 have H := H1
 clear H1
 have H' := ba_.mk H
 clear H
 go_enter Tryz.func46, Tryz.ntmps46
 go_wp2_with (first | ((with_reducible refine va_ (f := 44) rfl ?_); refine lc_ (some 13) rfl rfl Tryz.func44 Qb rfl #[.slice A0 l0.length c0, .int .i64 (-1)] rfl Qm ?_; (with_reducible refine (di_.calls _ _ l0 (-1) true _ ?side1 ?side2 A2.out).mono ?_); (case side1 => exact X1); (case side2 => exact HC0.out); rintro e w4 ⟨rfl, hb⟩; refine ⟨_, rfl, ?_⟩; have n0_ := ba_.mk (hb_ Qh hb); clear HB; have HB := n0_; clear n0_; (try clear hb); (try clear hb2); (try clear hk); (try clear hi)))
 go_loopg [5, 17] k (fun kq v5 v17 w' => ∃ (x5_1 : List Int) (x17_1 : Int), v17 = .int .i64 x17_1 ∧ ba_ (ic_.l0 kq l0 x5_1 l0 (l0.length : Int) x17_1 = some (r1, r2, r3)) ∧ ba_ (kq ≤ k) ∧ ba_ (Kd.R (Kd.int .i64) 3 w' w.heap.size (fun _ => True) v5 x5_1) ∧ ba_ (Below w.heap.size w w'))
 case atStart => exact ⟨(([] : List Int)), (0), Ql, H', ⟨Nat.le_refl _⟩, ⟨Q9⟩, ⟨Qh⟩⟩
 case round =>
  clear H'
  try clear p2
  try clear c3
  try clear c4
  obtain ⟨x5_1, x17_1, rfl, HA, HK1, HO_5, HB⟩ := hrel
  cases gk with
  | zero => exact absurd HA.out (by simp [ic_.l0])
  | succ k1 =>
   have H := HA.out
   clear HA
   simp only [ic_.l0] at H
   by_cases c5 : x17_1 < (l0.length : Int)
   ·rw [if_pos c5] at H
    have c5b0 := decide_eq_true c5
    clear c5
    obtain ⟨c6, H⟩ := Qq H
    have c6b0 := decide_eq_true c6
    clear c6
    obtain ⟨c7, H⟩ := Qq H
    have c7b0 := decide_eq_true c7
    clear c7
    by_cases c8 : (rd l0 x17_1) = (-1)
    rotate_left
    ·rw [if_neg c8] at H
     have c8b0 : ((rd l0 x17_1) == (-1)) = false := beq_eq_false_iff_ne.mpr c8
     have c8b1 : ((rd l0 x17_1) != (-1)) = true := bne_iff_ne.mpr c8
     have H' := ba_.mk H
     clear H
     have p106 : 0 ≤ (x17_1 : Int) := of_decide_eq_true Qi
     have q106 : x17_1 < (l0.length : Int) := of_decide_eq_true Qi
     obtain ⟨ad106, e106, hx106_0⟩ := Kd.ee_ HR0.out x17_1 p106 q106
     cases e106
     replace hx106_0 := (HB.out.cell (World.block_lt_of_cell? w _ hx106_0)).trans hx106_0
     replace p106 := eq_true p106
     replace q106 := eq_true q106
     go_wp2
     go_roundg k1
     case measure => have := HK1.out; omega
     case rel => exact ⟨(x5_1), (wrap64 (x17_1 + 1)), Ql, H', ⟨Xf⟩, ⟨by (with_reducible repeat (first | apply Kd.bb_ | apply Kd.cb_ | apply Kd.sb_)); exact HO_5.out⟩, ⟨Qh⟩⟩
    rw [if_pos c8] at H
    have c8b0 : ((rd l0 x17_1) == (-1)) = true := beq_iff_eq.mpr c8
    have c8b1 : ((rd l0 x17_1) != (-1)) = false := bne_eq_false_iff_eq.mpr c8
    clear c8
    obtain ⟨c9, H⟩ := Qq H
    have LMc9 := ba_.mk c9
    clear c9
    obtain ⟨y107, hy107⟩ : ∃ y_ : List Int, y_ = (x5_1 ++ [x17_1]) := ⟨_, rfl⟩
    replace H : (ic_.l0 k1 l0 y107 l0 (l0.length : Int) (wrap64 (x17_1 + 1))) = some (r1, r2, r3) := by first | (rw [hy107]; with_reducible exact H) | (have H2_ := (Option.bind_some _ _).symm.trans H; rw [hy107]; with_reducible exact H2_) | (have H2_ := (Option.bind_some _ _).symm.trans H; with_reducible exact H2_) | with_reducible exact H | (rw [hy107]; exact H) | exact H
    have Ny107 := ba_.mk hy107
    clear hy107
    have H' := ba_.mk H
    clear H
    have p106 : 0 ≤ (x17_1 : Int) := of_decide_eq_true Qi
    have q106 : x17_1 < (l0.length : Int) := of_decide_eq_true Qi
    obtain ⟨ad106, e106, hx106_0⟩ := Kd.ee_ HR0.out x17_1 p106 q106
    cases e106
    replace hx106_0 := (HB.out.cell (World.block_lt_of_cell? w _ hx106_0)).trans hx106_0
    replace p106 := eq_true p106
    replace q106 := eq_true q106
    go_wp2_with (first | ((with_reducible refine md_ (b := .append) (xs := #[.tmp 24, .tmp 26]) rfl ?_); at_builtin; refine Kd.yf_ (Kd.int .i64) (w0 := w) w.heap.size rfl (.tmp 24) (.tmp 26) 22 3 (.int .i64 0) 8 rfl Tryz.underlying22 zh_ rfl Qc Qa u5 x5_1 x17_1 [.int .i64 x17_1] (fun _ => True) (fun _ => False) rfl rfl ?aP (fun _ hk => hk.elim) ?aF ?aO ?aB ?aS ?aL ?_; (case aP => exact rfl); (case aB => exact Xo); (case aF => exact Xn); (case aO => exact (Qk HO_5.out)); (case aS => exact Xp); (case aL => have := LMc9.out; omega); intro v108 w10 ho hb hg hat; rw [← Ny107.out] at ho; have n0_ := ba_.mk (hb); have n1_ := ba_.mk (ho); clear HB; clear HO_5; have HB := n0_; have HO109 := n1_; clear n0_ n1_; clear ho hb hg hat))
    go_roundg k1
    case measure => have := HK1.out; omega
    case rel => exact ⟨(y107), (wrap64 (x17_1 + 1)), Ql, H', ⟨Xf⟩, ⟨by (with_reducible repeat (first | apply Kd.bb_ | apply Kd.cb_ | apply Kd.sb_)); exact HO109.out⟩, ⟨Qh⟩⟩
   rw [if_neg c5] at H
   have c5b0 := decide_eq_false c5
   clear c5
   have H' := ba_.mk H
   clear H
   go_wp2
   go_loopg [8] k1 (fun kq v8 w' => ∃ (x8_2 : Int), v8 = .int .i64 x8_2 ∧ ba_ (ic_.l1 kq l0 x5_1 x8_2 = some (r1, r2, r3)) ∧ ba_ (kq ≤ k1) ∧ ba_ (Kd.R (Kd.int .i64) 3 w' w.heap.size (fun _ => True) u5 x5_1) ∧ ba_ (Below w.heap.size w w'))
   case atStart => exact ⟨(0), Ql, H', ⟨Nat.le_refl _⟩, ⟨by (with_reducible repeat (first | apply Kd.bb_ | apply Kd.cb_ | apply Kd.sb_)); exact HO_5.out⟩, ⟨Qh⟩⟩
   case round =>
    clear H'
    try clear p1
    try clear q1
    try clear hx1
    try clear p2
    try clear c3
    try clear c4
    try clear c5
    try clear c5b0
    try clear c6
    try clear c6b0
    try clear p6
    try clear c7
    try clear c7b0
    try clear c8
    try clear c8b0
    try clear c8b1
    try clear c9
    try clear p10
    try clear q10
    try clear hx10
    try clear hx106_0
    try clear p106
    try clear p2
    try clear q106
    obtain ⟨x8_2, rfl, HA, HK2, HO_5, HB⟩ := hrel
    cases gk with
    | zero => exact absurd HA.out (by simp [ic_.l1])
    | succ k2 =>
     have H := HA.out
     clear HA
     simp only [ic_.l1] at H
     by_cases c11 : (wrap64 ((wrap64 (2 * x8_2)) + (x5_1.length : Int))) ≤ 6
     rotate_left
     ·rw [if_neg c11] at H
      have c11b0 := decide_eq_false c11
      clear c11
      simp only [Option.some.injEq, Prod.mk.injEq] at H
      obtain ⟨rfl, rfl, rfl⟩ := H
      obtain ⟨Ao37, co37, eo37⟩ := Kd.td_ HO_5.out
      subst eo37
      go_wp2
      go_ret3
      exact ⟨_, Qu, Q9, Qh⟩
     rw [if_pos c11] at H
     have c11b0 := decide_eq_true c11
     clear c11
     obtain ⟨⟨t110, t111⟩, A12, H⟩ := Qo H
     try dsimp only at H
     by_cases c13 : t111 = true
     rotate_left
     ·replace c13 := Bool.eq_false_iff.mpr c13
      subst c13
      have H1 : (ic_.l1 k2 l0 x5_1 (wrap64 (x8_2 + 1))) = some (r1, r2, r3) := by rw [if_neg (show ¬ (false = true) by decide)] at H; exact H
      clear H
      have H := H1
      clear H1
      have H' := ba_.mk H
      clear H
      obtain ⟨Ao35, co35, eo35⟩ := Kd.td_ HO_5.out
      subst eo35
      go_wp2_with (first | ((with_reducible refine va_ (f := 81) rfl ?_); refine lc_ (some 41) rfl rfl Tryz.func81 Qb rfl #[.slice A0 l0.length c0, .slice Ao35 x5_1.length co35, .int .i64 x8_2] rfl Qm ?_; (with_reducible refine (ax_.calls _ _ l0 _ _ x5_1 x8_2 t110 false _ ?side1 ?side2 ?side3 ?side4 A12.out).mono ?_); (case side1 => exact Xc); (case side2 => exact HC0.out); (case side3 => exact Yy); (case side4 => exact (Kd.wb_ HO_5.out).2.1); rintro e w36 ⟨v112, rfl, ho0, hb⟩; refine ⟨_, rfl, ?_⟩; have n0_ := ba_.mk (Kd.ue_ (Qk HO_5.out) (Kd.cf_ ho0) hb); have n1_ := ba_.mk (Kd.xd_ (Kd.fg_ ho0 (Kd.R_lt (Qk HO_5.out))) (pb_ Qh)); have n2_ := ba_.mk (hb_ Qh hb); clear HO_5; clear HB; have HO_5 := n0_; have HO113 := n1_; have HB := n2_; clear n0_ n1_ n2_; (try clear hb); (try clear hb2); (try clear hk); (try clear hi); (try clear ho0)))
      go_roundg k2
      case measure => exact Q7
      case rel => exact ⟨(wrap64 (x8_2 + 1)), Ql, H', ⟨Q8⟩, ⟨by (with_reducible repeat (first | apply Kd.bb_ | apply Kd.cb_ | apply Kd.sb_)); exact Kd.fd_ HO_5.out (fun _ hk => trivial)⟩, ⟨Qh⟩⟩
     subst c13
     have H1 : ((rq_.f x5_1 t110).bind fun t114 => ((fk_.f l0 t114).bind fun t117 => (if (t117.length : Int) > 0 then (if 0 ≤ (wrap64 ((l0.length : Int) - 6)) then (if (wrap64 ((l0.length : Int) - 6)) ≤ (t117.length : Int) then (some ((t117.take ((wrap64 ((l0.length : Int) - 6)) : Int).toNat), x8_2, 0)) else (none)) else (none)) else (ic_.l1 k2 l0 x5_1 (wrap64 (x8_2 + 1)))))) = some (r1, r2, r3) := by rw [if_pos rfl] at H; exact H
     clear H
     have H := H1
     clear H1
     obtain ⟨t114, A14, H⟩ := Qo H
     try dsimp only at H
     obtain ⟨t117, A15, H⟩ := Qo H
     try dsimp only at H
     by_cases c16 : (t117.length : Int) > 0
     rotate_left
     ·rw [if_neg c16] at H
      have c16b0 : decide (0 < (t117.length : Int)) = false := decide_eq_false c16
      have c16b1 : decide (0 < t117.length) = false := decide_eq_false Qa
      clear c16
      have H' := ba_.mk H
      clear H
      obtain ⟨Ao28, co28, eo28⟩ := Kd.td_ HO_5.out
      subst eo28
      go_wp2_with (first | ((with_reducible refine va_ (f := 81) rfl ?_); refine lc_ (some 41) rfl rfl Tryz.func81 Qb rfl #[.slice A0 l0.length c0, .slice Ao28 x5_1.length co28, .int .i64 x8_2] rfl Qm ?_; (with_reducible refine (ax_.calls _ _ l0 _ _ x5_1 x8_2 t110 true _ ?side1 ?side2 ?side3 ?side4 A12.out).mono ?_); (case side1 => exact Xc); (case side2 => exact HC0.out); (case side3 => exact Yy); (case side4 => exact (Kd.wb_ HO_5.out).2.1); rintro e w29 ⟨v112, rfl, ho0, hb⟩; refine ⟨_, rfl, ?_⟩; have n0_ := ba_.mk (Kd.ue_ (Qk HO_5.out) (Kd.cf_ ho0) hb); have n1_ := ba_.mk (Kd.xd_ (Kd.fg_ ho0 (Kd.R_lt (Qk HO_5.out))) (pb_ Qh)); have n2_ := ba_.mk (hb_ Qh hb); clear HO_5; clear HB; have HO_5 := n0_; have HO113 := n1_; have HB := n2_; clear n0_ n1_ n2_; (try clear hb); (try clear hb2); (try clear hk); (try clear hi); (try clear ho0); obtain ⟨Ao30, co30, eo30⟩ := Kd.td_ HO113.out; subst eo30) | ((with_reducible refine ld_ (N := 49) rfl ?_); refine xl_ (v := .slice (some ⟨w29.heap.size, 0, none⟩) 2 2) (w1 := w29.alloc (.cells #[.slice Ao28 x5_1.length co28, .slice Ao30 t110.length co30] 22)) rfl ?hr ?_; (case hr => exact Qt)) | ((with_reducible refine va_ (f := 66) rfl ?_); refine lc_ (some 50) rfl rfl Tryz.func66 Qb rfl #[.slice (some ⟨w29.heap.size, 0, none⟩) 2 2] rfl X5 ?_; (refine (wm_ Ao28 co28 x5_1 Ao30 co30 t110 w29 (Kd.wb_ HO_5.out).2.2 (Kd.wb_ HO_5.out).2.1 (Kd.wb_ HO113.out).2.2 (Kd.wb_ HO113.out).2.1 (by have := (rq_.some A14.out).2; omega)).mono ?_); rintro e w31 ⟨v115, rfl, ho0, hb⟩; rw [← (rq_.some A14.out).1] at ho0; refine ⟨_, rfl, ?_⟩; have n0_ := ba_.mk (Kd.ue_ (Qk HO_5.out) (Kd.cf_ ho0) hb); have n1_ := ba_.mk (Kd.ue_ (Qk HO113.out) (Kd.cf_ ho0) hb); have n2_ := ba_.mk (Kd.xd_ (Kd.fg_ (Kd.fg_ ho0 (Kd.R_lt (Qk HO_5.out))) (Kd.R_lt (Qk HO113.out))) (pb_ Qh)); have n3_ := ba_.mk (hb_ Qh hb); clear HO_5; clear HO113; clear HB; have HO_5 := n0_; have HO113 := n1_; have HO116 := n2_; have HB := n3_; clear n0_ n1_ n2_ n3_; (try clear hb); (try clear hb2); (try clear hk); (try clear hi); (try clear ho0); obtain ⟨Ao32, co32, eo32⟩ := Kd.td_ HO116.out; subst eo32) | ((with_reducible refine va_ (f := 69) rfl ?_); refine lc_ (some 51) rfl rfl Tryz.func69 Qb rfl #[.slice A0 l0.length c0, .slice Ao32 t114.length co32] rfl Qm ?_; (with_reducible refine (fk_.zb1_ _ _ l0 _ _ t114 t117 _ ?side1 ?side2 ?side3 ?side4 A15.out).mono ?_); (case side1 => exact Xc); (case side2 => exact HC0.out); (case side3 => repeat (first | exact (Kd.wb_ HO116.out).2.2 | (with_reducible refine Kd.zc_ ?_ _) | (with_reducible refine Kd.ad_ ?_ _) | (with_reducible refine Kd.od_ ?_))); (case side4 => exact (Kd.wb_ HO116.out).2.1); rintro e w33 ⟨v118, rfl, ho0, hb, hnil⟩; refine ⟨_, rfl, ?_⟩; have HNIL := ba_.mk hnil; clear hnil; have n0_ := ba_.mk (Kd.ue_ (Qk HO_5.out) (Kd.cf_ ho0) hb); have n1_ := ba_.mk (Kd.ue_ (Qk HO113.out) (Kd.cf_ ho0) hb); have n2_ := ba_.mk (Kd.ue_ (Qk HO116.out) (Kd.cf_ ho0) hb); have n3_ := ba_.mk (Kd.xd_ (Kd.fg_ (Kd.fg_ (Kd.fg_ ho0 (Kd.R_lt (Qk HO_5.out))) (Kd.R_lt (Qk HO113.out))) (Kd.R_lt (Qk HO116.out))) (pb_ Qh)); have n4_ := ba_.mk (hb_ Qh hb); clear HO_5; clear HO113; clear HO116; clear HB; have HO_5 := n0_; have HO113 := n1_; have HO116 := n2_; have HO119 := n3_; have HB := n4_; clear n0_ n1_ n2_ n3_ n4_; (try clear hb); (try clear hb2); (try clear hk); (try clear hi); (try clear ho0); have en_ := HNIL.out (fl1_ A2.out) (List.eq_nil_of_length_eq_zero (by have := of_decide_eq_false c16b1; omega)); subst en_))
      go_roundg k2
      case measure => exact Q7
      case rel => exact ⟨(wrap64 (x8_2 + 1)), Ql, H', ⟨Q8⟩, ⟨by (with_reducible repeat (first | apply Kd.bb_ | apply Kd.cb_ | apply Kd.sb_)); exact Kd.fd_ HO_5.out (fun _ hk => trivial)⟩, ⟨Qh⟩⟩
     rw [if_pos c16] at H
     have c16b0 : decide (0 < (t117.length : Int)) = true := decide_eq_true c16
     have c16b1 : decide (0 < t117.length) = true := decide_eq_true Qa
     clear c16
     obtain ⟨ji17, hji17⟩ : ∃ j_ : Int, (wrap64 ((l0.length : Int) - 6)) = j_ := ⟨_, rfl⟩
     replace H : (if 0 ≤ (ji17) then (if (ji17) ≤ (t117.length : Int) then (some ((t117.take ((ji17) : Int).toNat), x8_2, 0)) else (none)) else (none)) = some (r1, r2, r3) := by first | (rw [hji17] at H; exact H) | (simp only [hji17] at H ⊢; exact H)
     (try rw [hji17] at A12)
     (try rw [hji17] at A14)
     (try rw [hji17] at A15)
     have hji17w : (IntKind.i64.wrap ((l0.length : Int) - 6)) = ji17 := (yb_ _).trans hji17
     obtain ⟨c18, H⟩ := Qq H
     have c18b0 := eq_true c18
     have c18b1 := decide_eq_true c18
     clear c18
     obtain ⟨c19, H⟩ := Qq H
     have c19b0 := eq_true c19
     have c19b1 := decide_eq_true c19
     clear c19
     obtain ⟨y120, hy120⟩ : ∃ y_ : List Int, y_ = (t117.take ((ji17) : Int).toNat) := ⟨_, rfl⟩
     replace H : (some (y120, x8_2, 0)) = some (r1, r2, r3) := by first | (rw [hy120]; with_reducible exact H) | (have H2_ := (Option.bind_some _ _).symm.trans H; rw [hy120]; with_reducible exact H2_) | (have H2_ := (Option.bind_some _ _).symm.trans H; with_reducible exact H2_) | with_reducible exact H | (rw [hy120]; exact H) | exact H
     have Ny120 := ba_.mk hy120
     clear hy120
     simp only [Option.some.injEq, Prod.mk.injEq] at H
     obtain ⟨rfl, rfl, rfl⟩ := H
     obtain ⟨Ao20, co20, eo20⟩ := Kd.td_ HO_5.out
     subst eo20
     go_wp2_with (first | ((with_reducible refine va_ (f := 81) rfl ?_); refine lc_ (some 41) rfl rfl Tryz.func81 Qb rfl #[.slice A0 l0.length c0, .slice Ao20 x5_1.length co20, .int .i64 x8_2] rfl Qm ?_; (with_reducible refine (ax_.calls _ _ l0 _ _ x5_1 x8_2 t110 true _ ?side1 ?side2 ?side3 ?side4 A12.out).mono ?_); (case side1 => exact Xc); (case side2 => exact HC0.out); (case side3 => exact Yy); (case side4 => exact (Kd.wb_ HO_5.out).2.1); rintro e w21 ⟨v112, rfl, ho0, hb⟩; refine ⟨_, rfl, ?_⟩; have n0_ := ba_.mk (Kd.ue_ (Qk HO_5.out) (Kd.cf_ ho0) hb); have n1_ := ba_.mk (Kd.xd_ (Kd.fg_ ho0 (Kd.R_lt (Qk HO_5.out))) (pb_ Qh)); have n2_ := ba_.mk (hb_ Qh hb); clear HO_5; clear HB; have HO_5 := n0_; have HO113 := n1_; have HB := n2_; clear n0_ n1_ n2_; (try clear hb); (try clear hb2); (try clear hk); (try clear hi); (try clear ho0); obtain ⟨Ao22, co22, eo22⟩ := Kd.td_ HO113.out; subst eo22) | ((with_reducible refine ld_ (N := 49) rfl ?_); refine xl_ (v := .slice (some ⟨w21.heap.size, 0, none⟩) 2 2) (w1 := w21.alloc (.cells #[.slice Ao20 x5_1.length co20, .slice Ao22 t110.length co22] 22)) rfl ?hr ?_; (case hr => exact Qt)) | ((with_reducible refine va_ (f := 66) rfl ?_); refine lc_ (some 50) rfl rfl Tryz.func66 Qb rfl #[.slice (some ⟨w21.heap.size, 0, none⟩) 2 2] rfl X5 ?_; (refine (wm_ Ao20 co20 x5_1 Ao22 co22 t110 w21 (Kd.wb_ HO_5.out).2.2 (Kd.wb_ HO_5.out).2.1 (Kd.wb_ HO113.out).2.2 (Kd.wb_ HO113.out).2.1 (by have := (rq_.some A14.out).2; omega)).mono ?_); rintro e w23 ⟨v115, rfl, ho0, hb⟩; rw [← (rq_.some A14.out).1] at ho0; refine ⟨_, rfl, ?_⟩; have n0_ := ba_.mk (Kd.ue_ (Qk HO_5.out) (Kd.cf_ ho0) hb); have n1_ := ba_.mk (Kd.ue_ (Qk HO113.out) (Kd.cf_ ho0) hb); have n2_ := ba_.mk (Kd.xd_ (Kd.fg_ (Kd.fg_ ho0 (Kd.R_lt (Qk HO_5.out))) (Kd.R_lt (Qk HO113.out))) (pb_ Qh)); have n3_ := ba_.mk (hb_ Qh hb); clear HO_5; clear HO113; clear HB; have HO_5 := n0_; have HO113 := n1_; have HO116 := n2_; have HB := n3_; clear n0_ n1_ n2_ n3_; (try clear hb); (try clear hb2); (try clear hk); (try clear hi); (try clear ho0); obtain ⟨Ao24, co24, eo24⟩ := Kd.td_ HO116.out; subst eo24) | ((with_reducible refine va_ (f := 69) rfl ?_); refine lc_ (some 51) rfl rfl Tryz.func69 Qb rfl #[.slice A0 l0.length c0, .slice Ao24 t114.length co24] rfl Qm ?_; (with_reducible refine (fk_.zb1_ _ _ l0 _ _ t114 t117 _ ?side1 ?side2 ?side3 ?side4 A15.out).mono ?_); (case side1 => exact Xc); (case side2 => exact HC0.out); (case side3 => repeat (first | exact (Kd.wb_ HO116.out).2.2 | (with_reducible refine Kd.zc_ ?_ _) | (with_reducible refine Kd.ad_ ?_ _) | (with_reducible refine Kd.od_ ?_))); (case side4 => exact (Kd.wb_ HO116.out).2.1); rintro e w25 ⟨v118, rfl, ho0, hb, hnil⟩; refine ⟨_, rfl, ?_⟩; have HNIL := ba_.mk hnil; clear hnil; have n0_ := ba_.mk (Kd.ue_ (Qk HO_5.out) (Kd.cf_ ho0) hb); have n1_ := ba_.mk (Kd.ue_ (Qk HO113.out) (Kd.cf_ ho0) hb); have n2_ := ba_.mk (Kd.ue_ (Qk HO116.out) (Kd.cf_ ho0) hb); have n3_ := ba_.mk (Kd.xd_ (Kd.fg_ (Kd.fg_ (Kd.fg_ ho0 (Kd.R_lt (Qk HO_5.out))) (Kd.R_lt (Qk HO113.out))) (Kd.R_lt (Qk HO116.out))) (pb_ Qh)); have n4_ := ba_.mk (hb_ Qh hb); clear HO_5; clear HO113; clear HO116; clear HB; have HO_5 := n0_; have HO113 := n1_; have HO116 := n2_; have HO119 := n3_; have HB := n4_; clear n0_ n1_ n2_ n3_ n4_; (try clear hb); (try clear hb2); (try clear hk); (try clear hi); (try clear ho0); obtain ⟨Ao26, co26, eo26⟩ := Kd.td_ HO119.out; subst eo26; obtain ⟨g_, hg_⟩ := ha1_ HO119.out (by have := of_decide_eq_true c16b1; omega); subst hg_; have q27 : ((ji17) : Int) ≤ ((t117.length : Int) : Int) := of_decide_eq_true Qi; obtain ⟨i027, hi027, _, hsz27, _⟩ := info_parts zh_; have hcut27 := ic1_ (P := Tryz.prog) 22 3 .i64 Tryz.underlying22 hi027 (some g_) t117.length co26 (ji17) (of_decide_eq_true Qi) q27 (Kd.wb_ HO119.out).2.1; have hr27 := Kd.sb1_ (m := ((ji17) : Int).toNat) HO119.out Qa; have hy27 : y120.length = ((ji17) : Int).toNat := (by rw [Ny120.out, List.length_take]; omega); rw [← Ny120.out] at hr27; rw [← hy27] at hr27 hcut27; clear hy27 hi027 hsz27 HO119; have HO122 := ba_.mk hr27; clear hr27; replace q27 := eq_true q27))
     go_ret3
     exact ⟨_, by first | rfl | (simp [ib_, jb_] <;> rfl) | (simp only [← hji17]; first | rfl | (simp [ib_, jb_] <;> rfl)) | (simp [*, ib_, jb_] <;> rfl), by (with_reducible repeat (first | apply Kd.bb_ | apply Kd.cb_ | apply Kd.sb_)); exact Kd.fd_ HO122.out (fun _ hk => trivial), Qh⟩
end Go.Proofs.YtpkhgapifnjbeaaGreatDoor.D
end
section
namespace Go.Proofs.YtpkhgapifnjbeaaGreatDoor.D
open RowKit G Rs Zw.PrintWords Zw.PrintLast Zw.PrintMore
attribute [local go_sem] pd_ rd_ yd_ zd_ dd_ ed_ qd_ sd_
end Go.Proofs.YtpkhgapifnjbeaaGreatDoor.D
end
section
namespace Go.Proofs.YtpkhgapifnjbeaaGreatDoor.G
open RowKit Zw.PrintWords Zw.PrintLast Zw.PrintMore Rs
open D
section
variable {w c : List Int}
theorem ia1_ {ps : List Int} {n : Nat} (h : (locR w ps n).2 = true) : ∃ Q : Nat → Bool, (locR w ps n).1 = posN Q w.length ∧ (posN Q w.length).length = n ∧ ∀ i, Q i = true → w.getD i 0 ≠ -1 := by
 unfold locR at h ⊢
 by_cases h0 : n = 0
 ·rw [if_pos h0]
  refine ⟨fun _ => false, ?_, ?_, fun i hi => by cases hi⟩
  ·exact (List.eq_nil_of_length_eq_zero (am_ fun _ _ => rfl)).symm
  ·rw [h0]; exact am_ fun _ _ => rfl
 rw [if_neg h0] at h ⊢
 unfold jv_ at h ⊢
 by_cases h2 : (solR (6 - ps.length - n) n (ig_ (matL (in_ w ps) n (6 - ps.length - n)))).2 = true
 rotate_left
 ·rw [if_neg h2] at h; cases h
 rw [if_pos h2] at h ⊢
 refine ⟨_, rfl, ?_, fun i hi => ?_⟩
 ·have := beq_iff_eq.1 h
  omega
 unfold locP at hi
 simp only [Bool.and_eq_true, decide_eq_true_eq] at hi
 exact hi.1
theorem pc1_ {Q : Nat → Bool} (hw : isWord w (-1) = true) (hQ : ∀ i, Q i = true → w.getD i 0 ≠ -1) (h6 : (eraN w w.length).length + (posN Q w.length).length ≤ 6) : bf_ w.length (eraN w w.length ++ posN Q w.length) := by
 obtain ⟨w1, w2, w3⟩ := jf_ hw
 refine vp_ (by rw [List.length_append]; exact h6) (List.nodup_append.2 ⟨by rw [hi_]; exact qj_ _ _, qj_ _ _, fun a ha b hb e => ?_⟩) fun x hx => ?_
 ·obtain ⟨i, h1, h2, rfl⟩ := (jg_ _).1 hb
  rw [e] at ha
  have h3 := ((lo_ w i).1 ha).2
  have h4 := w3 _ (rg_ h1)
  exact hQ i h2 Qa
 rcases List.mem_append.1 hx with hx | hx
 ·rw [hi_] at hx
  obtain ⟨i, h1, _, rfl⟩ := (jg_ _).1 hx
  omega
 obtain ⟨i, h1, _, rfl⟩ := (jg_ _).1 hx
 omega
theorem uc1_ {Q : Nat → Bool} {n : Nat} (hw : isWord w (-1) = true) (hQ : ∀ i, Q i = true → w.getD i 0 ≠ -1) (hl : (posN Q w.length).length = n) (h6 : (eraN w w.length).length + 2 * n ≤ 6)
  (h : yg_ w (eraN w w.length ++ posN Q w.length) c) : Near w c ∧ errN w c w.length ≤ n := by
 obtain ⟨w1, w2, w3⟩ := jf_ hw
 have hD := pc1_ hw hQ Qa
 have hoff : ∀ i, i < w.length → (i : Int) ∉ eraN w w.length ++ posN Q w.length → c.getD i 0 = w.getD i 0 := fun i hi hm => h.agree i hi fun k hk e => hm (by rw [← e]; exact xy_ hD.1 hk)
 have herr : errN w c w.length ≤ n := by
  rw [xw_, ← hl]
  refine xq_ _ _ _ fun i hi hd => ?_
  obtain ⟨a, b⟩ := hh_.1 hd
  refine Classical.byContradiction fun hq => b ?_
  refine (hoff i hi fun hm => ?_).symm
  rcases List.mem_append.1 hm with hm | hm
  ·exact a hm
  obtain ⟨j, h1, h2, h3⟩ := (jg_ _).1 hm
  rw [show i = j from by omega] at hq
  exact hq h2
 refine ⟨⟨fc1_ (gu_ (by rw [h.len]; omega) fun x hx => ?_) h.cw, h.len, Qa⟩, herr⟩
 obtain ⟨i, hi, rfl⟩ := ml_ hx
 rw [h.len] at hi
 by_cases hm : (i : Int) ∈ eraN w w.length ++ posN Q w.length
 ·obtain ⟨k, hk, e⟩ := bs_ hm
  have := (le_ _).1 (h.els k hk)
  rw [e] at this; omega
 rw [hoff i hi hm]
 have h4 := w3 _ (rg_ hi)
 have h5 : ¬ w.getD i 0 < 0 := fun q => hm (List.mem_append_left _ ((lo_ w i).2 ⟨hi, q⟩))
 omega
theorem dec_l1 (hw : isWord w (-1) = true) : ∀ (d n k : Nat), n + d = 4 → d + 2 < k → (∀ c, Near w c → n ≤ errN w c w.length) → ic_.l1 k w (eraN w w.length) (n : Int) = some (decS w) := by
 obtain ⟨w1, w2, w3⟩ := jf_ hw
 have hol := ww_ w w.length
 intro d
 induction d with
 | zero =>
  intro n k hn hk hc
  obtain ⟨k, rfl⟩ : ∃ m, k = m + 1 := ⟨k - 1, Qa⟩
  have e1 : wrap64 (2 * (n : Int)) = ((2 * n : Nat) : Int) := by unfold wrap64; omega
  have e2 : wrap64 (((2 * n : Nat) : Int) + ((eraN w w.length).length : Int)) = ((2 * n + (eraN w w.length).length : Nat) : Int) := wrap_add _ _ Qa
  simp only [ic_.l1]
  rw [e1, e2, if_neg Qa, np_ hw fun c h => by have := h.near; have := hc c h; omega]
 | succ d ih =>
  intro n k hn hk hc
  obtain ⟨k, rfl⟩ : ∃ m, k = m + 1 := ⟨k - 1, Qa⟩
  have e1 : wrap64 (2 * (n : Int)) = ((2 * n : Nat) : Int) := by unfold wrap64; omega
  have e2 : wrap64 (((2 * n : Nat) : Int) + ((eraN w w.length).length : Int)) = ((2 * n + (eraN w w.length).length : Nat) : Int) := wrap_add _ _ Qa
  have e3 : wrap64 ((n : Int) + 1) = ((n + 1 : Nat) : Int) := by unfold wrap64; omega
  have e4 : wrap64 ((w.length : Int) - 6) = ((w.length - 6 : Nat) : Int) := by unfold wrap64; omega
  simp only [ic_.l1]
  rw [e1, e2]
  by_cases h6 : 2 * n + (eraN w w.length).length ≤ 6
  rotate_left
  ·rw [if_neg Qa, np_ hw fun c h => by have := h.near; have := hc c h; omega]
  rw [if_pos Qa]
  have hE : bf_ w.length (eraN w w.length) := by rw [hi_]; exact az_ (by rw [← hi_]; omega)
  rw [ja1_ w (eraN w w.length) n w2 hE.1 Qa, e3, e4]
  simp only [Option.bind_some]
  by_cases h2 : (locR w (eraN w w.length) n).2 = true
  rotate_left
  ·rw [if_neg h2]
   refine ih (n + 1) k Qa Qa fun c h => ?_
   have h3 := hc c h
   refine Nat.lt_of_le_of_ne h3 fun he => h2 ?_
   have h4 := kv_ hw h
   rw [← he] at h4
   rw [h4]
  rw [if_pos h2]
  obtain ⟨Q, q1, q2, q3⟩ := ia1_ h2
  have hD := pc1_ hw q3 Qa
  unfold rq_.f
  rw [q1, if_pos Qa]
  simp only [Option.bind_some]
  rw [pq_ w _ w2 hD.1]
  simp only [Option.bind_some]
  have hwk : ∀ k, k < (eraN w w.length ++ posN Q w.length).length → -1 ≤ w.getD (PS (eraN w w.length ++ posN Q w.length) k) 0 ∧ w.getD (PS (eraN w w.length ++ posN Q w.length) k) 0 ≤ 31 := fun k hk => w3 _ (rg_ (hD.lt hk))
  rcases py_ w2 hD hwk with hnil | hF
  ·rw [hnil, if_neg Qj]
   refine ih (n + 1) k Qa Qa fun c h => ?_
   have h3 := hc c h
   refine Nat.lt_of_le_of_ne h3 fun he => ?_
   have h4 := kv_ hw h
   rw [← he] at h4
   rw [h4] at q1
   have h5 : yg_ w (eraN w w.length ++ posN Q w.length) c := by
    rw [← q1]
    have hA : bf_ w.length (eraN w w.length ++ errL w c) := qi1_ (by rw [pn_]; omega)
    exact ⟨h.len, lu_ h.len, fun k hk => jo_ h.code _ (by rw [h.len]; exact hA.lt hk), (fh_ h.code).2⟩
   have h7 := yw_ w2 hD hwk h5
   rw [hnil] at h7
   have := h.len
   rw [← h7] at this
   simp at this
   omega
  obtain ⟨f1, f2⟩ := uc1_ hw q3 q2 Qa hF
  have f3 := hc _ f1
  have f4 : errN w (qn_ w (eraN w w.length ++ posN Q w.length)) w.length = n := by omega
  have f5 := f1.len
  rw [if_pos Qa, if_pos Qa, if_pos Qa, Int.toNat_natCast, jq_ hw f1, f4]
theorem dec_l0 (hw : isWord w (-1) = true) : ∀ (d i k : Nat), i + d = w.length → d + 20 < k → ic_.l0 k w (eraN w i) w (w.length : Int) (i : Int) = some (decS w) := by
 obtain ⟨w1, w2, w3⟩ := jf_ hw
 intro d
 induction d with
 | zero =>
  intro i k hi hk
  obtain ⟨k, rfl⟩ : ∃ m, k = m + 1 := ⟨k - 1, Qa⟩
  obtain rfl : i = w.length := by omega
  simp only [ic_.l0]
  rw [if_neg Qa]
  exact dec_l1 hw 4 0 k Qa Qa (fun c h => Nat.zero_le _)
 | succ d ih =>
  intro i k hi hk
  obtain ⟨k, rfl⟩ : ∃ m, k = m + 1 := ⟨k - 1, Qa⟩
  have hn := ww_ w i
  have hs : wrap64 ((i : Int) + 1) = ((i + 1 : Nat) : Int) := by unfold wrap64; omega
  have h4 := w3 _ (rg_ (d := w) (i := i) Qa)
  have := ih (i + 1) k Qa Qa
  simp only [eraN] at this
  simp only [ic_.l0]
  rw [if_pos Qa, if_pos Qa, if_pos Qa, hs, df_]
  by_cases h0 : w.getD i 0 = -1
  ·rw [if_pos h0, if_pos Qa]
   rw [if_pos Qa] at this; exact this
  rw [if_neg h0]
  rw [if_neg Qa, List.append_nil] at this; exact this
end
theorem iy_ (w : List Int) (k : Nat) (hk : 100 ≤ k) : ic_.f k w = some (decS w) := by
 unfold ic_.f
 have hg : di_.f w (-1) = some (isWord w (-1)) := rfl
 rw [hg]
 simp only [Option.bind_some]
 by_cases hw : isWord w (-1) = true
 ·rw [if_pos hw]
  have := (jf_ hw).2.1
  exact dec_l0 hw w.length 0 k Qa Qa
 ·rw [if_neg hw, hy_ hw]
end Go.Proofs.YtpkhgapifnjbeaaGreatDoor.G
end
section
namespace Go.Proofs.YtpkhgapifnjbeaaGreatDoor.G
open RowKit Zw.PrintWords Zw.PrintLast Zw.PrintMore Rs
theorem jt_ (xs ys : List Int) (h : xs.length = ys.length) : ((List.range xs.length).all fun i => xs.getD i 0 == ys.getD i 0) = (xs == ys) := by
 rw [Bool.eq_iff_iff, List.all_eq_true, beq_iff_eq]
 constructor
 ·intro hh
  apply List.ext_getElem h
  intro i h1 h2
  have := hh i (by simpa using h1)
  simpa [List.getD_eq_getElem?_getD, h1, h2] using this
 rintro rfl i _
 simp
theorem jp_ {P : Program} (w : World) (d : Nat) (t e : TypeId) (n : Nat) (ht : P.underlying t = some (.array n e)) (he : P.underlying e = some (.int .i64)) (hsz : ∀ w, (sizeOf e).run P w = .ok 1 w)
  (xs ys : List Int) (hx : xs.length = n) (hy : ys.length = n) :
  (Op.equalIn (d + 2) t (.agg (nums .i64 xs).toArray) (.agg (nums .i64 ys).toArray)).run P w = .ok (xs == ys) w := by
 rw [← jt_ xs ys (hx.trans hy.symm), hx, List.range_eq_range', Op.equalIn]
 simp only [Sem.run_bind, run_underlying ht, Result.andThen_ok, hsz, Std.Legacy.Range.forIn_eq_forIn_range', Std.Legacy.Range.size, Nat.sub_zero, Nat.add_sub_cancel, Nat.div_one]
 have hl : ∀ i ∈ List.range' 0 n 1, i < n := fun i hi => by simpa using (List.mem_range'_1.1 hi).2
 generalize List.range' 0 n 1 = l at hl ⊢
 induction l with
 | nil => simp
 | cons i l ih =>
  have hi : i < n := hl i Qj
  have px : (part e (nums .i64 xs).toArray (i * 1)).run P w = .ok (.int .i64 (xs.getD i 0)) w := by
   simp [part, isAgg, run_underlying he, nums, List.getD, List.getElem?_eq_getElem (show i < xs.length by omega)]
  have py : (part e (nums .i64 ys).toArray (i * 1)).run P w = .ok (.int .i64 (ys.getD i 0)) w := by
   simp [part, isAgg, run_underlying he, nums, List.getD, List.getElem?_eq_getElem (show i < ys.length by omega)]
  have pe : (Op.equalIn (d + 1) e (.int .i64 (xs.getD i 0)) (.int .i64 (ys.getD i 0))).run P w = .ok (xs.getD i 0 == ys.getD i 0) w := by
   rw [run_equalIn_int w d e .i64 .i64 _ _ he]
  simp only [List.forIn_cons, Sem.run_bind, px, py, pe, Result.andThen_ok, List.all_cons]
  cases hb : (xs.getD i 0 == ys.getD i 0)
  ·simp
  simp only [Bool.not_true, Bool.false_eq_true, if_false, Sem.run_pure, Result.andThen_ok, Bool.true_and]
  exact ih fun j hj => hl j (by simp [hj])
theorem xk1_ (w : World) : (sizeOf 87).run Tryz.prog w = .ok 1 w := by kernel_rfl
theorem hj1_ (xs : List Int) (hx : xs.length = 6) (W : World) : Sem.run Tryz.prog (binOp .eql 88 (.agg (nums .i64 xs).toArray) (.agg (nums .i64 (List.replicate 6 0)).toArray)) W = .ok (.bool (xs == List.replicate 6 0)) W := by
 rw [run_eql_struct, jp_ W 9998 _ 87 6 Tryz.underlying88 Tryz.underlying87 xk1_ xs _ hx rfl]
 rfl
def g_zs.f (l : List Int) : Option Bool := (nm_.f l).map fun r => (r == List.replicate 6 0)
theorem g_zs.some {l : List Int} {t : Bool} (h : g_zs.f l = some t) : ∃ r, nm_.f l = some r ∧ t = (r == List.replicate 6 0) := by
 unfold g_zs.f at h
 obtain ⟨r, h1, h2⟩ := Option.map_eq_some_iff.1 h
 exact ⟨r, h1, h2.symm⟩
end Go.Proofs.YtpkhgapifnjbeaaGreatDoor.G
end
section
namespace Go.Proofs.YtpkhgapifnjbeaaGreatDoor.W
open RowKit G Rs Zw.PrintWords Zw.PrintLast Zw.PrintMore
attribute [local go_sem] pd_ rd_ yd_ zd_ dd_ ed_ qd_ sd_
def errW : Option Int → Value
 | none => .nilIface
 | some c => .iface 0 (.int .i64 c)
theorem ib_ : errW none = .nilIface := rfl
theorem jb_ (c : Int) : errW (some c) = .iface 0 (.int .i64 c) := rfl
end Go.Proofs.YtpkhgapifnjbeaaGreatDoor.W
end
section
namespace Go.Proofs.YtpkhgapifnjbeaaGreatDoor.W
open RowKit G Rs Zw.PrintWords Zw.PrintLast Zw.PrintMore
attribute [local go_sem] pd_ rd_ yd_ zd_ dd_ ed_ qd_ sd_
def dh_.f (l0 : List Int) : Option (Bool) := (di_.f l0 0).bind fun t101 => (if t101 = true then ((g_zs.f l0).bind fun t102 => (some t102)) else (some false))
set_option maxHeartbeats 8000000 in
set_option maxRecDepth 100000 in
theorem dh_.calls (A0 : Option Addr) (c0 : Nat) (l0 : List Int) (r : Bool) (w : World) (hr0 : Kd.C (Kd.int .i64) w A0 l0.length l0) (hc0 : l0.length ≤ c0) (h : dh_.f l0 = some r) :
  Calls Tryz.prog 13 #[.slice A0 l0.length c0] w fun e w' => e = .returned (.bool r) ∧ Below w.heap.size w w' := by
 have HR0 := ba_.mk hr0
 have HC0 := ba_.mk hc0
 clear hr0 hc0
 have HB := ba_.mk (Below.refl w.heap.size w)
 have H : ((di_.f l0 0).bind fun t101 => (if t101 = true then ((g_zs.f l0).bind fun t102 => (some t102)) else (some false))) = some r := h
 clear h
 obtain ⟨t101, A2, H⟩ := Qo H
 try dsimp only at H
 by_cases c3 : t101 = true
 rotate_left
 ·replace c3 := Bool.eq_false_iff.mpr c3
  subst c3
  have H1 : (some false) = some r := by rw [if_neg (show ¬ (false = true) by decide)] at H; exact H
  clear H
  have H := H1
  clear H1
  obtain rfl := Option.some.inj H
  go_enter Tryz.func13, Tryz.ntmps13
  go_wp2_with (first | ((with_reducible refine va_ (f := 44) rfl ?_); refine lc_ (some 4) rfl rfl Tryz.func44 Qb rfl #[.slice A0 l0.length c0, .int .i64 0] rfl Qm ?_; (with_reducible refine (di_.calls _ _ l0 0 false _ ?side1 ?side2 A2.out).mono ?_); (case side1 => exact X1); (case side2 => exact HC0.out); rintro e w7 ⟨rfl, hb⟩; refine ⟨_, rfl, ?_⟩; have n0_ := ba_.mk (hb_ Qh hb); clear HB; have HB := n0_; clear n0_; (try clear hb); (try clear hb2); (try clear hk); (try clear hi)))
  go_ret
  exact ⟨Qu, Qh⟩
 subst c3
 have H1 : ((g_zs.f l0).bind fun t102 => (some t102)) = some r := by rw [if_pos rfl] at H; exact H
 clear H
 have H := H1
 clear H1
 obtain ⟨t102, A4, H⟩ := Qo H
 try dsimp only at H
 obtain ⟨ts_, hts_, htb_⟩ := g_zs.some A4.out
 have TS := ba_.mk hts_
 clear hts_
 subst htb_
 obtain rfl := Option.some.inj H
 go_enter Tryz.func13, Tryz.ntmps13
 go_wp2_with (first | ((with_reducible refine va_ (f := 44) rfl ?_); refine lc_ (some 4) rfl rfl Tryz.func44 Qb rfl #[.slice A0 l0.length c0, .int .i64 0] rfl Qm ?_; (with_reducible refine (di_.calls _ _ l0 0 true _ ?side1 ?side2 A2.out).mono ?_); (case side1 => exact X1); (case side2 => exact HC0.out); rintro e w5 ⟨rfl, hb⟩; refine ⟨_, rfl, ?_⟩; have n0_ := ba_.mk (hb_ Qh hb); clear HB; have HB := n0_; clear n0_; (try clear hb); (try clear hb2); (try clear hk); (try clear hi)) | (go_at_call 45; (refine (nm_.calls _ _ l0 ts_ _ ?side1 ?side2 TS.out).mono ?_); (case side1 => exact Xc); (case side2 => exact HC0.out); rintro e w6 ⟨v9, hv9, rfl, hb⟩; have qE : ∀ W : World, Sem.run Tryz.prog (binOp .eql 88 (.agg v9) (.agg #[.int .i64 0, .int .i64 0, .int .i64 0, .int .i64 0, .int .i64 0, .int .i64 0])) W = .ok (.bool (ts_ == List.replicate 6 0)) W := fun W => (by rw [hv9]; exact hj1_ ts_ (rj_ TS.out) W); clear hv9; have n0_ := ba_.mk (hb_ Qh hb); clear HB; have HB := n0_; clear n0_; (try clear hb); (try clear hb2); (try clear hk); (try clear hi)))
 go_ret
 exact ⟨Qu, Qh⟩
end Go.Proofs.YtpkhgapifnjbeaaGreatDoor.W
end
section
namespace Go.Proofs.YtpkhgapifnjbeaaGreatDoor.W
open RowKit G Rs Zw.PrintWords Zw.PrintLast Zw.PrintMore
attribute [local go_sem] pd_ rd_ yd_ zd_ dd_ ed_ qd_ sd_
end Go.Proofs.YtpkhgapifnjbeaaGreatDoor.W
end
section
namespace Go.Proofs.YtpkhgapifnjbeaaGreatDoor.G
open RowKit Zw.PrintWords Zw.PrintLast Zw.PrintMore Rs
def decC (w : List Int) : List Int × Int × Int := (Go.Proofs.YtpkhgapifnjbeaaGreatDoor.D.ic_.f 200 w).getD ([], 0, 0)
theorem qw_ (w : List Int) : decC w = decS w := by
 unfold decC
 rw [iy_ w 200 Qa]; rfl
def zu_.f (d : List Int) : Option (List Int × Int) := if d.length ≤ 300 then some (encS d) else none
def qq_.f (w : List Int) : Option (List Int × Int × Int) := some (decC w)
def qr_.f (l : List Int) : Option Bool := some (lf_ l)
theorem zu_.calls (A0 : Option Addr) (c0 : Nat) (l0 : List Int) (r1 : List Int) (r2 : Int) (w : World) (hr0 : Kd.C (Kd.int .i64) w A0 l0.length l0) (hc0 : l0.length ≤ c0) (h : zu_.f l0 = some (r1, r2)) :
  Calls Tryz.prog 37 #[.slice A0 l0.length c0] w fun e w' => ∃ v0_ : Value, e = .returned (.tuple #[v0_, .int .i64 r2]) ∧ Kd.R (Kd.int .i64) 3 w' w.heap.size (fun _ => True) v0_ r1 ∧ Below w.heap.size w w' := by
 unfold zu_.f at h
 by_cases hl : l0.length ≤ 300
 ·rw [if_pos hl, ← mf1_ l0 hl 1100 Qa] at h
  exact Go.Proofs.YtpkhgapifnjbeaaGreatDoor.E.jc_.calls 1100 A0 c0 l0 r1 r2 w hr0 hc0 h
 ·exact Yh
theorem qq_.calls (A0 : Option Addr) (c0 : Nat) (l0 : List Int) (r1 : List Int) (r2 : Int) (r3 : Int) (w : World) (hr0 : Kd.C (Kd.int .i64) w A0 l0.length l0) (hc0 : l0.length ≤ c0) (h : qq_.f l0 = some (r1, r2, r3)) :
  Calls Tryz.prog 46 #[.slice A0 l0.length c0] w fun e w' => ∃ v0_ : Value, e = .returned (.tuple #[v0_, .int .i64 r2, .int .i64 r3]) ∧ Kd.R (Kd.int .i64) 3 w' w.heap.size (fun _ => True) v0_ r1 ∧ Below w.heap.size w w' := by
 unfold qq_.f at h
 rw [qw_, ← iy_ l0 100 Qa] at h
 exact Go.Proofs.YtpkhgapifnjbeaaGreatDoor.D.ic_.calls 100 A0 c0 l0 r1 r2 r3 w hr0 hc0 h
theorem zg1_ (l : List Int) : (synI l == List.replicate 6 0) = (List.range 6).all fun j => decide (psum l (j + 1) l.length = 0) := by
 rw [Bool.eq_iff_iff, beq_iff_eq, List.all_eq_true]
 constructor
 ·intro h j hj
  have hj6 := List.mem_range.1 hj
  have e := le1_ l j hj6
  rw [h, List.getD_eq_getElem?_getD, List.getElem?_replicate, if_pos hj6] at e
  exact decide_eq_true (cn_.1 e.symm)
 intro h
 apply List.ext_getElem
 ·simp [synI]
 intro j h1 h2
 have hj6 : j < 6 := by simpa using h2
 have e := le1_ l j hj6
 have := of_decide_eq_true (h j (List.mem_range.2 hj6))
 rw [this, List.getD_eq_getElem?_getD, List.getElem?_eq_getElem h1] at e
 rw [List.getElem_replicate]
 exact e
theorem wz_ (l : List Int) : Go.Proofs.YtpkhgapifnjbeaaGreatDoor.W.dh_.f l = some (lf_ l) := by
 unfold Go.Proofs.YtpkhgapifnjbeaaGreatDoor.W.dh_.f lf_
 have hg : di_.f l 0 = some (isWord l 0) := rfl
 rw [hg]
 simp only [Option.bind_some]
 by_cases hw : isWord l 0 = true
 rotate_left
 ·rw [if_neg hw, Bool.eq_false_iff.2 hw, Bool.false_and]
 rw [if_pos hw, hw, Bool.true_and]
 have := (jf_ hw).2.1
 unfold g_zs.f nm_.f
 rw [if_pos this]
 simp only [Option.map_some, Option.bind_some]
 rw [zg1_]
theorem qr_.calls (A0 : Option Addr) (c0 : Nat) (l0 : List Int) (r : Bool) (w : World) (hr0 : Kd.C (Kd.int .i64) w A0 l0.length l0) (hc0 : l0.length ≤ c0) (h : qr_.f l0 = some r) :
  Calls Tryz.prog 13 #[.slice A0 l0.length c0] w fun e w' => e = .returned (.bool r) ∧ Below w.heap.size w w' :=
 Go.Proofs.YtpkhgapifnjbeaaGreatDoor.W.dh_.calls A0 c0 l0 r w hr0 hc0 ((wz_ l0).trans h)
end Go.Proofs.YtpkhgapifnjbeaaGreatDoor.G
end
section
namespace Go.Proofs
open Go.Shelf
def Tryz.lays160_ren : Go.Shelf.Ren := ⟨fun | 160 => 75 | 232 => 104 | 231 => 103 | 227 => 105 | 234 => 107 | 233 => 106 | 236 => 109 | 235 => 108 | 228 => 125 | 271 => 128 | 151 => 127 | 197 => 126 | 120 => 135 | 152 => 134 | 260 => 133 | 137 => 138 | 119 => 139 | 224 => 131 | 225 => 130 | 217 => 129 | 266 => 136 | n => n, fun | 9 => 9 | 4 => 4 | 3 => 3 | 5 => 5 | 117 => 139 | 116 => 138 | 0 => 0 | 124 => 142 | 21 => 21 | 105 => 149 | 46 => 107 | 119 => 155 | 139 => 158 | 138 => 157 | n => n, fun | 3 => 1 | 4 => 2 | n => n⟩
theorem Tryz.lays160 : Go.Proofs.Lays.n160 Tryz.prog Tryz.lays160_ren := {
 mixed := by kernel_rfl
 f119 := Tryz.func139.trans (congrArg some Qb)
 f120 := Tryz.func135.trans (congrArg some Qb)
 f137 := Tryz.func138.trans (congrArg some Qb)
 f151 := Tryz.func127.trans (congrArg some Qb)
 f152 := Tryz.func134.trans (congrArg some Qb)
 f160 := Tryz.func75.trans (congrArg some Qb)
 f197 := Tryz.func126.trans (congrArg some Qb)
 f217 := Tryz.func129.trans (congrArg some Qb)
 f224 := Tryz.func131.trans (congrArg some Qb)
 f225 := Tryz.func130.trans (congrArg some Qb)
 f227 := Tryz.func105.trans (congrArg some Qb)
 f228 := Tryz.func125.trans (congrArg some Qb)
 f231 := Tryz.func103.trans (congrArg some Qb)
 f232 := Tryz.func104.trans (congrArg some Qb)
 f233 := Tryz.func106.trans (congrArg some Qb)
 f234 := Tryz.func107.trans (congrArg some Qb)
 f235 := Tryz.func108.trans (congrArg some Qb)
 f236 := Tryz.func109.trans (congrArg some Qb)
 f260 := Tryz.func133.trans (congrArg some Qb)
 f266 := Tryz.func136.trans (congrArg some Qb)
 f271 := Tryz.func128.trans (congrArg some Qb)
 t0 := Tryz.underlying0
 a0 := Tryz.isAgg0
 z0 := Tryz.sizeOf0
 v0 := Tryz.zeroValue0
 t3 := Tryz.underlying3
 a3 := Tryz.isAgg3
 z3 := Tryz.sizeOf3
 v3 := Tryz.zeroValue3
 t4 := Tryz.underlying4
 a4 := Tryz.isAgg4
 z4 := Tryz.sizeOf4
 v4 := Tryz.zeroValue4
 t5 := Tryz.underlying5
 a5 := Tryz.isAgg5
 z5 := Tryz.sizeOf5
 v5 := Tryz.zeroValue5
 t9 := Tryz.underlying9
 a9 := Tryz.isAgg9
 z9 := Tryz.sizeOf9
 v9 := Tryz.zeroValue9
 t21 := Tryz.underlying21
 a21 := Tryz.isAgg21
 z21 := Tryz.sizeOf21
 v21 := Tryz.zeroValue21
 t46 := Tryz.underlying107
 a46 := Tryz.isAgg107
 z46 := Tryz.sizeOf107
 v46 := Tryz.zeroValue107
 t105 := Tryz.underlying149
 a105 := Tryz.isAgg149
 z105 := Tryz.sizeOf149
 v105 := Tryz.zeroValue149
 t116 := Tryz.underlying138
 a116 := Tryz.isAgg138
 z116 := Tryz.sizeOf138
 t117 := Tryz.underlying139
 a117 := Tryz.isAgg139
 z117 := Tryz.sizeOf139
 v117 := Tryz.zeroValue139
 t119 := Tryz.underlying155
 a119 := Tryz.isAgg155
 z119 := Tryz.sizeOf155
 t124 := Tryz.underlying142
 a124 := Tryz.isAgg142
 z124 := Tryz.sizeOf142
 v124 := Tryz.zeroValue142
 t138 := Tryz.underlying157
 a138 := Tryz.isAgg157
 z138 := Tryz.sizeOf157
 v138 := Tryz.zeroValue157
 t139 := Tryz.underlying158
 a139 := Tryz.isAgg158
 z139 := Tryz.sizeOf158
 v139 := Tryz.zeroValue158
 g3 := by kernel_rfl
 g4 := by kernel_rfl }
def Tryz.lays138_ren : Go.Shelf.Ren := ⟨fun | 138 => 86 | 195 => 122 | 218 => 123 | 143 => 76 | 219 => 110 | 217 => 129 | 225 => 130 | 224 => 131 | 267 => 132 | 266 => 136 | 314 => 137 | n => n, fun | 9 => 9 | 3 => 3 | 4 => 4 | 5 => 5 | 0 => 0 | 46 => 107 | 146 => 131 | 51 => 130 | n => n, fun | 1 => 0 | n => n⟩
theorem Tryz.lays138 : Go.Proofs.Lays.n138 Tryz.prog Tryz.lays138_ren := {
 mixed := by kernel_rfl
 f138 := Tryz.func86.trans (congrArg some Qb)
 f143 := Tryz.func76.trans (congrArg some Qb)
 f195 := Tryz.func122.trans (congrArg some Qb)
 f217 := Tryz.func129.trans (congrArg some Qb)
 f218 := Tryz.func123.trans (congrArg some Qb)
 f219 := Tryz.func110.trans (congrArg some Qb)
 f224 := Tryz.func131.trans (congrArg some Qb)
 f225 := Tryz.func130.trans (congrArg some Qb)
 f266 := Tryz.func136.trans (congrArg some Qb)
 f267 := Tryz.func132.trans (congrArg some Qb)
 f314 := Tryz.func137.trans (congrArg some Qb)
 t0 := Tryz.underlying0
 a0 := Tryz.isAgg0
 z0 := Tryz.sizeOf0
 v0 := Tryz.zeroValue0
 t3 := Tryz.underlying3
 a3 := Tryz.isAgg3
 z3 := Tryz.sizeOf3
 v3 := Tryz.zeroValue3
 t4 := Tryz.underlying4
 a4 := Tryz.isAgg4
 z4 := Tryz.sizeOf4
 v4 := Tryz.zeroValue4
 t5 := Tryz.underlying5
 a5 := Tryz.isAgg5
 z5 := Tryz.sizeOf5
 v5 := Tryz.zeroValue5
 t9 := Tryz.underlying9
 a9 := Tryz.isAgg9
 z9 := Tryz.sizeOf9
 v9 := Tryz.zeroValue9
 t46 := Tryz.underlying107
 a46 := Tryz.isAgg107
 z46 := Tryz.sizeOf107
 v46 := Tryz.zeroValue107
 t51 := Tryz.underlying130
 a51 := Tryz.isAgg130
 z51 := Tryz.sizeOf130
 v51 := Tryz.zeroValue130
 t146 := Tryz.underlying131
 a146 := Tryz.isAgg131
 z146 := Tryz.sizeOf131
 v146 := Tryz.zeroValue131
 g1 := by kernel_rfl }
def Tryz.lays144_ren : Go.Shelf.Ren := ⟨fun | 144 => 43 | 143 => 76 | 219 => 110 | 217 => 129 | 225 => 130 | 224 => 131 | 267 => 132 | 266 => 136 | 314 => 137 | n => n, fun | 9 => 9 | 4 => 4 | 3 => 3 | 5 => 5 | 46 => 107 | 146 => 131 | 51 => 130 | n => n, fun | 1 => 0 | n => n⟩
theorem Tryz.lays144 : Go.Proofs.Lays.n144 Tryz.prog Tryz.lays144_ren := {
 mixed := by kernel_rfl
 f143 := Tryz.func76.trans (congrArg some Qb)
 f144 := Tryz.func43.trans (congrArg some Qb)
 f217 := Tryz.func129.trans (congrArg some Qb)
 f219 := Tryz.func110.trans (congrArg some Qb)
 f224 := Tryz.func131.trans (congrArg some Qb)
 f225 := Tryz.func130.trans (congrArg some Qb)
 f266 := Tryz.func136.trans (congrArg some Qb)
 f267 := Tryz.func132.trans (congrArg some Qb)
 f314 := Tryz.func137.trans (congrArg some Qb)
 t3 := Tryz.underlying3
 a3 := Tryz.isAgg3
 z3 := Tryz.sizeOf3
 v3 := Tryz.zeroValue3
 t4 := Tryz.underlying4
 a4 := Tryz.isAgg4
 z4 := Tryz.sizeOf4
 v4 := Tryz.zeroValue4
 t5 := Tryz.underlying5
 a5 := Tryz.isAgg5
 z5 := Tryz.sizeOf5
 v5 := Tryz.zeroValue5
 t9 := Tryz.underlying9
 a9 := Tryz.isAgg9
 z9 := Tryz.sizeOf9
 v9 := Tryz.zeroValue9
 t46 := Tryz.underlying107
 a46 := Tryz.isAgg107
 z46 := Tryz.sizeOf107
 v46 := Tryz.zeroValue107
 t51 := Tryz.underlying130
 a51 := Tryz.isAgg130
 z51 := Tryz.sizeOf130
 v51 := Tryz.zeroValue130
 t146 := Tryz.underlying131
 a146 := Tryz.isAgg131
 z146 := Tryz.sizeOf131
 v146 := Tryz.zeroValue131
 g1 := by kernel_rfl }
def Tryz.laysX_ren : Go.Shelf.Ren := ⟨fun | 167 => 40 | 105 => 39 | 212 => 71 | 99 => 72 | 165 => 73 | 166 => 38 | 170 => 74 | 169 => 41 | 263 => 99 | 264 => 100 | 206 => 101 | 240 => 70 | 241 => 102 | 276 => 98 | 277 => 124 | n => n, fun | 9 => 9 | 3 => 3 | 4 => 4 | 20 => 20 | 0 => 0 | 46 => 107 | 109 => 108 | 5 => 5 | 72 => 76 | 76 => 79 | 51 => 130 | 146 => 131 | 53 => 133 | 148 => 134 | 70 => 73 | 37 => 74 | 75 => 78 | 127 => 111 | 164 => 128 | 80 => 83 | n => n, fun | n => n⟩
theorem Tryz.laysX : Go.Proofs.Lays.n105 Tryz.prog Tryz.laysX_ren := {
 mixed := by kernel_rfl
 f99 := Tryz.func72.trans (congrArg some Qb)
 f105 := Tryz.func39.trans (congrArg some Qb)
 f165 := Tryz.func73.trans (congrArg some Qb)
 f166 := Tryz.func38.trans (congrArg some Qb)
 f169 := Tryz.func41.trans (congrArg some Qb)
 f170 := Tryz.func74.trans (congrArg some Qb)
 f206 := Tryz.func101.trans (congrArg some Qb)
 f212 := Tryz.func71.trans (congrArg some Qb)
 f240 := Tryz.func70.trans (congrArg some Qb)
 f241 := Tryz.func102.trans (congrArg some Qb)
 f263 := Tryz.func99.trans (congrArg some Qb)
 f264 := Tryz.func100.trans (congrArg some Qb)
 f276 := Tryz.func98.trans (congrArg some Qb)
 f277 := Tryz.func124.trans (congrArg some Qb)
 t0 := Tryz.underlying0
 a0 := Tryz.isAgg0
 z0 := Tryz.sizeOf0
 v0 := Tryz.zeroValue0
 t3 := Tryz.underlying3
 a3 := Tryz.isAgg3
 z3 := Tryz.sizeOf3
 v3 := Tryz.zeroValue3
 t4 := Tryz.underlying4
 a4 := Tryz.isAgg4
 z4 := Tryz.sizeOf4
 v4 := Tryz.zeroValue4
 t5 := Tryz.underlying5
 a5 := Tryz.isAgg5
 z5 := Tryz.sizeOf5
 v5 := Tryz.zeroValue5
 t9 := Tryz.underlying9
 a9 := Tryz.isAgg9
 z9 := Tryz.sizeOf9
 v9 := Tryz.zeroValue9
 t20 := Tryz.underlying20
 a20 := Tryz.isAgg20
 z20 := Tryz.sizeOf20
 v20 := Tryz.zeroValue20
 t37 := Tryz.underlying74
 a37 := Tryz.isAgg74
 z37 := Tryz.sizeOf74
 v37 := Tryz.zeroValue74
 t46 := Tryz.underlying107
 a46 := Tryz.isAgg107
 z46 := Tryz.sizeOf107
 v46 := Tryz.zeroValue107
 t51 := Tryz.underlying130
 a51 := Tryz.isAgg130
 z51 := Tryz.sizeOf130
 v51 := Tryz.zeroValue130
 t53 := Tryz.underlying133
 a53 := Tryz.isAgg133
 z53 := Tryz.sizeOf133
 v53 := Tryz.zeroValue133
 t70 := Tryz.underlying73
 a70 := Tryz.isAgg73
 z70 := Tryz.sizeOf73
 v70 := Tryz.zeroValue73
 t72 := Tryz.underlying76
 a72 := Tryz.isAgg76
 z72 := Tryz.sizeOf76
 v72 := Tryz.zeroValue76
 t75 := Tryz.underlying78
 a75 := Tryz.isAgg78
 z75 := Tryz.sizeOf78
 v75 := Tryz.zeroValue78
 t76 := Tryz.underlying79
 a76 := Tryz.isAgg79
 z76 := Tryz.sizeOf79
 v76 := Tryz.zeroValue79
 t109 := Tryz.underlying108
 a109 := Tryz.isAgg108
 z109 := Tryz.sizeOf108
 v109 := Tryz.zeroValue108
 t127 := Tryz.underlying111
 a127 := Tryz.isAgg111
 z127 := Tryz.sizeOf111
 v127 := Tryz.zeroValue111
 t146 := Tryz.underlying131
 a146 := Tryz.isAgg131
 z146 := Tryz.sizeOf131
 v146 := Tryz.zeroValue131
 t148 := Tryz.underlying134
 a148 := Tryz.isAgg134
 z148 := Tryz.sizeOf134
 v148 := Tryz.zeroValue134
 t164 := Tryz.underlying128
 a164 := Tryz.isAgg128
 z164 := Tryz.sizeOf128
 v164 := Tryz.zeroValue128 }
theorem Tryz.laysX_extra : Builder.Extra Tryz.prog Tryz.laysX_ren := {
 sizeBuilder := by kernel_rfl
 liesBuilder := by kernel_rfl
 t5 := Tryz.underlying5
 a5 := Tryz.isAgg5
 z5 := Tryz.sizeOf5
 v5 := Tryz.zeroValue5
 infoByte := by kernel_rfl
 cellsByte := by kernel_rfl
 sizeByte := by kernel_rfl
 neB5 := by decide }
theorem Tryz.laysX166 : Go.Proofs.Lays.n166 Tryz.prog Tryz.laysX_ren := { Tryz.laysX with }
theorem Tryz.laysX169 : Go.Proofs.Lays.n169 Tryz.prog Tryz.laysX_ren := { Tryz.laysX with }
theorem Tryz.laysX167 : Go.Proofs.Lays.n167 Tryz.prog Tryz.laysX_ren := { Tryz.laysX with
 f167 := Tryz.func40.trans (congrArg some Qb) }
def Tryz.rev_ren : Go.Shelf.Ren := ⟨fun | 35 => 54 | n => n, fun | 22 => 74 | 23 => 5 | n => n, fun | n => n⟩
theorem Tryz.rev : Go.Proofs.SlLaysE.n35 Tryz.prog Tryz.rev_ren := {
 mixed := by kernel_rfl
 f35 := ⟨Tryz.f54.name, Qc, Tryz.func54.trans (congrArg some Qb)⟩
 t0 := Tryz.underlying0
 a0 := Tryz.isAgg0
 z0 := Tryz.sizeOf0
 v0 := Tryz.zeroValue0
 t3 := Tryz.underlying3
 a3 := Tryz.isAgg3
 z3 := Tryz.sizeOf3
 v3 := Tryz.zeroValue3
 t4 := Tryz.underlying4
 a4 := Tryz.isAgg4
 z4 := Tryz.sizeOf4
 v4 := Tryz.zeroValue4
 t22 := Tryz.underlying74
 a22 := Tryz.isAgg74
 z22 := Tryz.sizeOf74
 v22 := Tryz.zeroValue74
 a23 := Tryz.isAgg5
 z23 := Tryz.sizeOf5 }
end Go.Proofs
end
section
namespace Go.Proofs.YtpkhgapifnjbeaaGreatDoor.G
open RowKit Zw.PrintWords
def vq_.f (s cs : ByteArray) : Option ByteArray := if s.size ≤ 1000 ∧ cs = ⟨#[48, 49, 63]⟩ then some ⟨(Lib.trimS s.data.toList cs.data.toList).toArray⟩ else none
theorem vq_.calls (s cs r : ByteArray) (w : World) (h : vq_.f s cs = some r) :
  Calls Tryz.prog 75 #[.string s, .string cs] w fun e w' => e = .returned (.string r) ∧ Below w.heap.size w w' := by
 unfold vq_.f at h
 by_cases hc : s.size ≤ 1000 ∧ cs = ⟨#[48, 49, 63]⟩
 rotate_left
 ·rw [if_neg hc] at h; cases h
 rw [if_pos hc] at h
 obtain rfl := Option.some.inj h
 obtain ⟨hs, rfl⟩ := hc
 exact Any.strings_Trim_laid Tryz.lays160 Qb s _ w Qa Qc (ascii_of_all Qc)
def l_Count.f (s cs : ByteArray) : Option Int := match cs.data.toList with
 | [c] => some (Lib.countByte s.data.toList c)
 | _ => none
theorem one_byte {cs : ByteArray} {c : UInt8} (h : cs.data.toList = [c]) : cs = ⟨#[c]⟩ := by
 cases cs with
 | mk d => congr 1; apply Array.ext'; exact h
theorem l_Count.calls (s cs : ByteArray) (r : Int) (w : World) (h : l_Count.f s cs = some r) :
  Calls Tryz.prog 86 #[.string s, .string cs] w fun e w' => e = .returned (.int .i64 r) ∧ Below w.heap.size w w' := by
 unfold l_Count.f at h
 split at h
 ·rename_i c hc
  obtain rfl := Option.some.inj h
  rw [one_byte hc]
  exact (Any.strings_Count_one Tryz.lays138 s c w).mono fun e w' ⟨h1, h2⟩ => ⟨h1, by rw [h2]; exact Below.refl _ _⟩
 ·cases h
def pj_.f (s cs : ByteArray) : Option Bool := match cs.data.toList with
 | [c] => some (decide (0 ≤ Lib.indexByte s.data.toList c))
 | _ => none
theorem pj_.calls (s cs : ByteArray) (r : Bool) (w : World) (h : pj_.f s cs = some r) :
  Calls Tryz.prog 43 #[.string s, .string cs] w fun e w' => e = .returned (.bool r) ∧ Below w.heap.size w w' := by
 unfold pj_.f at h
 split at h
 ·rename_i c hc
  obtain rfl := Option.some.inj h
  rw [one_byte hc]
  exact (Any.strings_Contains_one Tryz.lays144 s c w).mono fun e w' ⟨h1, h2⟩ => ⟨h1, by rw [h2]; exact Below.refl _ _⟩
 ·cases h
def offB (x : Int) : Bool := decide (x < 0) || decide (31 < x)
theorem validC (x : Int) (W : World) :
  Calls Tryz.prog 82 #[.int .i64 x] W fun e w' => e = .returned (.bool (offB x)) ∧ W = w' := by
 by_cases h1 : x < 0 <;> by_cases h2 : 31 < x
 all_goals
  go_enter Tryz.func82, Tryz.ntmps82
  go_wp2
  go_ret
  exact ⟨by simp [offB, h1, h2], rfl⟩
theorem ii1_ (x : Int) (W : World) (b : Bool) (hb : offB x = b) :
  Calls Tryz.prog 82 #[.int .i64 x] W fun e w' => e = .returned (.bool b) ∧ W = w' := hb ▸ validC x W
set_option maxHeartbeats 1000000 in
theorem idxV (w : World) (A : Option Addr) (c : Nat) (l : List Int) (hr : Kd.C (Kd.int .i64) w A l.length l) (hl : l.length ≤ 9223372036854775807) :
  Calls Tryz.prog 111 #[.slice A l.length c, .func (.func 82) #[] #[]] w fun e w' => (∃ r : Int, e = .returned (.int .i64 r) ∧ decide (0 ≤ r) = l.any offB) ∧ w = w' := by
 have HR := Lib.hid hr
 clear hr
 go_enter Tryz.func111, Tryz.ntmps111
 go_wp2
 go_loop [8] (fun v => ∃ k : Int, 0 ≤ k ∧ k ≤ l.length ∧ v = .int .i64 k ∧ Hid ((l.take k.toNat).any offB = false)) (fun v => l.length - (intOf v).toNat)
 case atStart => exact ⟨0, Qa, Qa, rfl, Lib.hid Qj⟩
 case round =>
  obtain ⟨k, hk0, hk, rfl, HN⟩ := hrel
  by_cases hlt : k < l.length
  rotate_left
  ·have HE := Lib.hid (vb1_ offB l k hlt HN.out)
   go_wp2
   go_ret
   exact ⟨⟨-1, rfl, by rw [HE.out]; rfl⟩, rfl⟩
  have hs := kt_ offB l k hk0 hlt
  have hh := mp_ offB l k hk0 hlt
  have HS := Lib.hid hs
  have HH := Lib.hid hh
  clear hs hh
  obtain ⟨ad, e1, hx⟩ := Kd.ee_ HR.out k hk0 hlt
  subst e1
  cases hb : offB (rd l k)
  ·have HB := Lib.hid hb
   clear hb
   go_wp2_with (first | (go_at_call 82; refine (ii1_ _ _ _ HB.out).mono ?_; rintro e w' ⟨rfl, rfl⟩))
   go_round
   case rel => exact ⟨k + 1, Qa, Qa, rfl, Lib.hid (by rw [HS.out, HN.out, HB.out]; rfl)⟩
   case measure => simp [intOf]; omega
  have HB := Lib.hid hb
  clear hb
  go_wp2_with (first | (go_at_call 82; refine (ii1_ _ _ _ HB.out).mono ?_; rintro e w' ⟨rfl, rfl⟩))
  go_ret
  exact ⟨⟨k, rfl, by rw [HH.out HB.out]; simp [hk0]⟩, rfl⟩
def rr_.f (l : List Int) : Option Bool := if l.length ≤ 1000 then some (l.any offB) else none
set_option maxHeartbeats 1000000 in
theorem rr_.calls (A : Option Addr) (c : Nat) (l : List Int) (r : Bool) (w : World) (hr : Kd.C (Kd.int .i64) w A l.length l) (hc : l.length ≤ c) (h : rr_.f l = some r) :
  Calls Tryz.prog 77 #[.slice A l.length c, .func (.func 82) #[] #[]] w fun e w' => e = .returned (.bool r) ∧ Below w.heap.size w w' := by
 unfold rr_.f at h
 by_cases hl : l.length ≤ 1000
 rotate_left
 ·exact Yh
 rw [if_pos hl] at h
 obtain rfl := Option.some.inj h
 have HR := Lib.hid hr
 clear hr hc h
 go_enter Tryz.func77, Tryz.ntmps77
 go_wp2_with (first | (go_at_call 111; refine (idxV _ A c l HR.out Qa).mono ?_; rintro e w' ⟨⟨r, rfl, hr⟩, rfl⟩; have H9 := Lib.hid hr; clear hr))
 go_ret
 exact ⟨congrArg (fun b => Ending.returned (.bool b)) (by rw [← H9.out]), Below.refl _ _⟩
end Go.Proofs.YtpkhgapifnjbeaaGreatDoor.G
end
section
namespace Go.Proofs.YtpkhgapifnjbeaaGreatDoor.G
open RowKit Go.Sort Go.Lib Go.Lib.Hx Zw.PrintWords
def ok_ (s : ByteArray) : ByteArray := ⟨s.data.toList.reverse.toArray⟩
def wj_.f (s : ByteArray) : Option ByteArray := if s.size ≤ 100000 then some (ok_ s) else none
theorem bn_ (s : ByteArray) : (numsOf s).toArray.size = s.size := by
 rw [List.size_toArray, numsOf_length]
theorem bytes_holds (w : World) (s : ByteArray) (cap : Nat) : Holds (Value.int .u8) ((w.alloc (.cells (bytesRow s cap) 5 ((bytesRow s cap).size, (bytesRow s cap).size + 1))).drew) w.heap.size 0 (numsOf s).toArray := by
 intro j hj
 rw [bn_] at hj
 have hj' : j < s.data.size := hj
 rw [Nat.zero_add]
 refine ⟨(World.cell?_alloc_mark w _ 5 _ j).trans ((bytesRow_at s cap j hj').trans ?_), (World.frozen?_alloc_mark w _ 5 _ _ j).trans ?_⟩
 ·have h1 : j < (numsOf s).toArray.size := by rw [bn_]; exact hj
  rw [getElem!_pos _ j h1]
  have := numsOf_at s j hj'
  rw [List.getD_eq_getElem?_getD, List.getElem?_eq_getElem (by rw [numsOf_length]; exact hj)] at this
  simp only [Option.getD_some] at this
  rw [List.getElem_toArray]
  exact congrArg (fun x : Int => some (Value.int .u8 x)) this.symm
 have : s.size ≤ (bytesRow s cap).size := by
  unfold bytesRow
  rw [Array.size_append, Array.size_map]
  exact Nat.le_add_right _ _
 rw [decide_eq_false (show ¬ (bytesRow s cap).size ≤ j by omega)]; rfl
theorem rev_at (blk n cap : Nat) (zs : List Int) (w : World) (hn : zs.length = n) (hH : Holds (Value.int .u8) w blk 0 zs.toArray) (hsz : n ≤ 9223372036854775807) :
  Calls Tryz.prog 54 #[.slice (some ⟨blk, 0, none⟩) n cap] w fun e w' => e = .returned (.tuple #[]) ∧ Holds (Value.int .u8) w' blk 0 zs.reverse.toArray ∧ ∀ B, B ≤ blk → Below B w w' := by
 subst hn
 refine (AnyE.slices_Reverse Tryz.rev (Value.int .u8) (fun _ => rfl) blk 0 cap zs w hH hsz).mono ?_
 rintro e w' ⟨rfl, m, rfl⟩
 exact ⟨rfl, holds_putRow _ _ _ _ _ _ (holds_ahead _ _ _ _ _ _ hH) Qj, fun B hB => below_putRow (Below.refl _ _) hB⟩
theorem xi1_ (w : World) (blk n cap : Nat) (l : List UInt8) (hn : l.length = n) (hH : Holds (Value.int .u8) w blk 0 (l.map fun b => (b.toNat : Int)).toArray) :
  (convert 74 9 (.slice (some ⟨blk, 0, none⟩) n cap)).run Tryz.prog w = .ok (.string ⟨l.toArray⟩) w := by
 subst hn
 refine run_convert_bytes_back w 74 9 5 ⟨blk, 0, none⟩ cap l Tryz.underlying74 Tryz.underlying5 Tryz.underlying9 fun j hj => ?_
 have := (hH j (by simpa using hj)).1
 rw [getElem!_pos _ j (by simpa using hj)] at this
 rw [show (⟨blk, 0, none⟩ : Addr).add j = ⟨blk, 0 + j, none⟩ from by simp [Addr.add]; omega, this]; simp
theorem tg1_ (s : ByteArray) : (numsOf s).reverse = (ok_ s).data.toList.map fun b => (b.toNat : Int) := by
 unfold numsOf ok_
 rw [List.map_reverse]
set_option maxHeartbeats 1000000 in
theorem wj_.calls (a0 r : ByteArray) (w : World) (h : wj_.f a0 = some r) :
  Calls Tryz.prog 20 #[.string a0] w fun e w' => e = .returned (.string r) ∧ Below w.heap.size w w' := by
 unfold wj_.f at h
 by_cases hs : a0.size ≤ 100000
 rotate_left
 ·rw [if_neg hs] at h; cases h
 rw [if_pos hs] at h
 obtain rfl := Option.some.inj h
 clear h
 have hcv := fun (w : World) (s : ByteArray) => run_bytes_of_string (P := Tryz.prog) w 9 74 5 s Tryz.underlying9 Tryz.underlying74 Tryz.underlying5
 have H0 := fun c => Lib.hid (bytes_holds w a0 c)
 have HB0 := fun c => Lib.hid (show Below w.heap.size w ((w.alloc (.cells (bytesRow a0 c) 5 ((bytesRow a0 c).size, (bytesRow a0 c).size + 1))).drew) from ca_ ((Below.refl _ _).alloc (Nat.le_refl _) _))
 go_enter Tryz.func20, Tryz.ntmps20
 go_wp2_with fail
 generalize grownCap w a0.size 0 5 = c
 have H1 := H0 c
 have HB1 := HB0 c
 clear H0 HB0 hcv
 refine (rev_at w.heap.size a0.size c (numsOf a0) _ (numsOf_length a0) H1.out Qa).mono ?_
 rintro e w1 ⟨rfl, hH, hB⟩
 have HB := Lib.hid (HB1.out.trans (hB w.heap.size (Nat.le_refl _)))
 rw [tg1_] at hH
 have hc := xi1_ w1 w.heap.size a0.size c (ok_ a0).data.toList (by unfold ok_; simp) hH
 clear hH hB H1 HB1
 go_wp2
 go_ret
 exact ⟨rfl, HB.out⟩
end Go.Proofs.YtpkhgapifnjbeaaGreatDoor.G
end
section
namespace Go.Proofs.YtpkhgapifnjbeaaGreatDoor.TA
open RowKit G Zw.PrintWords Zw.PrintLast Zw.PrintMore
attribute [local go_sem] pd_ rd_ yd_ zd_ dd_ ed_ qd_ sd_
def errW : Option Int → Value
 | none => .nilIface
 | some c => .iface 0 (.int .i64 c)
theorem ib_ : errW none = .nilIface := rfl
theorem jb_ (c : Int) : errW (some c) = .iface 0 (.int .i64 c) := rfl
end Go.Proofs.YtpkhgapifnjbeaaGreatDoor.TA
end
section
namespace Go.Proofs.YtpkhgapifnjbeaaGreatDoor.TA
open RowKit G Zw.PrintWords Zw.PrintLast Zw.PrintMore
attribute [local go_sem] pd_ rd_ yd_ zd_ dd_ ed_ qd_ sd_
def mg_.f (a0_0 : Int) (a0_1 : Int) (a0_2 : Int) (a0_3 : Int) : Option (Bool) := (rr_.f (([a0_0, a0_2, a0_3] : List Int))).bind fun t105 => (if t105 = true then (some false) else (if a0_1 ≥ 0 then (some (decide (a0_1 ≤ 9999))) else (some false)))
set_option maxHeartbeats 8000000 in
set_option maxRecDepth 100000 in
theorem mg_.calls (a0_0 : Int) (a0_1 : Int) (a0_2 : Int) (a0_3 : Int) (r : Bool) (w : World) (h : mg_.f a0_0 a0_1 a0_2 a0_3 = some r) :
  Calls Tryz.prog 47 #[.agg #[.int .i64 a0_0, .int .i64 a0_1, .int .i64 a0_2, .int .i64 a0_3]] w fun e w' => e = .returned (.bool r) ∧ Below w.heap.size w w' := by
 have hu38 := Tryz.underlying38
 have HB := ba_.mk (Below.refl w.heap.size w)
 have H : ((rr_.f (([a0_0, a0_2, a0_3] : List Int))).bind fun t105 => (if t105 = true then (some false) else (if a0_1 ≥ 0 then (some (decide (a0_1 ≤ 9999))) else (some false)))) = some r := h
 clear h
 obtain ⟨y102, hy102⟩ : ∃ y_ : List Int, y_ = (([a0_0, a0_2, a0_3] : List Int)) := ⟨_, rfl⟩
 replace H : ((rr_.f y102).bind fun t105 => (if t105 = true then (some false) else (if a0_1 ≥ 0 then (some (decide (a0_1 ≤ 9999))) else (some false)))) = some r := by first | (rw [hy102]; with_reducible exact H) | (have H2_ := (Option.bind_some _ _).symm.trans H; rw [hy102]; with_reducible exact H2_) | (have H2_ := (Option.bind_some _ _).symm.trans H; with_reducible exact H2_) | with_reducible exact H | (rw [hy102]; exact H) | exact H
 have Ny102 := ba_.mk hy102
 clear hy102
 obtain ⟨t105, A2, H⟩ := Qo H
 try dsimp only at H
 by_cases c3 : t105 = true
 ·subst c3
  have H1 : (some false) = some r := by rw [if_pos rfl] at H; exact H
  clear H
  have H := H1
  clear H1
  obtain rfl := Option.some.inj H
  go_enter Tryz.func47, Tryz.ntmps47
  go_wp2_with (first | ((with_reducible refine ld_ (N := 1) rfl ?_); refine de_ ?hg (N := 1) ?hd (cs := #[.int .i64 a0_0, .int .i64 a0_1, .int .i64 a0_2, .int .i64 a0_3]) (t := 38) ?hr ?_; (case hd => rfl); (case hg => rfl); (case hr => exact Qt); intro gb101 hg w4 hbox hb; have n0_ := ba_.mk (hb_ Qh hb); have n1_ := ba_.mk (hbox); have n2_ := ba_.mk ((by rw [hg]; exact (pb_ Qh) : w.heap.size ≤ gb101)); have n3_ := ba_.mk ((by rw [hg]; exact (pb_ Qh) : w.heap.size ≤ gb101)); clear HB; have HB := n0_; have BK101 := n1_; have GW101 := n2_; have GE101 := n3_; clear n0_ n1_ n2_ n3_; clear hb hbox hg; have hcz5_0 : w4.cell? ⟨gb101, 0, none⟩ = some (.int .i64 a0_0) := (la_ BK101.out 0).trans rfl; have hcz5_1 : w4.cell? ⟨gb101, 1, none⟩ = some (.int .i64 a0_1) := (la_ BK101.out 1).trans rfl; have hcz5_2 : w4.cell? ⟨gb101, 2, none⟩ = some (.int .i64 a0_2) := (la_ BK101.out 2).trans rfl; have hcz5_3 : w4.cell? ⟨gb101, 3, none⟩ = some (.int .i64 a0_3) := (la_ BK101.out 3).trans rfl; have hfz5_0 := ja_ BK101.out 0; have hfz5_1 := ja_ BK101.out 1; have hfz5_2 := ja_ BK101.out 2; have hfz5_3 := ja_ BK101.out 3) | ((with_reducible refine ld_ (N := 9) rfl ?_); refine Kd.aq_ (Kd.int .i64) _ 3 ?hg (N := 9) ?hd (xs := ([a0_0, a0_2, a0_3] : List Int)) (inner := [.int .i64 a0_0, .int .i64 a0_2, .int .i64 a0_3]) (ok := fun _ => True) (okp := fun _ => True) ?hr ?hp (fun _ hk => hk) trivial (Below.refl _ _) (Nat.le_refl _) Qj ?_; (case hd => rfl); (case hg => rfl); (case hr => exact Qt); (case hp => exact (Reps.one (show Kd.M (Kd.int .i64) _ _ _ a0_0 [.int .i64 a0_0] from rfl) (Reps.one (show Kd.M (Kd.int .i64) _ _ _ a0_2 [.int .i64 a0_2] from rfl) (Reps.one (show Kd.M (Kd.int .i64) _ _ _ a0_3 [.int .i64 a0_3] from rfl) (Reps.none _ _))))); intro v103 w6 ho7 hb hg_ hnew_; clear hg_ hnew_; (first | rw [← Ny102.out] at ho7 | (simp only [Int.reduceToNat] at ho7; rw [← Ny102.out] at ho7)); have n0_ := ba_.mk (Kd.xd_ ho7 (pb_ Xh)); have n1_ := ba_.mk (pc_ (g := gb101) (o := .cells #[.int .i64 a0_0, .int .i64 a0_1, .int .i64 a0_2, .int .i64 a0_3] 38 (0, 0)) (Qf BK101.out) hb); have n2_ := ba_.mk (hb_ Xh hb); clear BK101; clear HB; have HO104 := n0_; have BK101 := n1_; have HB := n2_; clear n0_ n1_ n2_; clear hb ho7; obtain ⟨Ao8, co8, eo8⟩ := Kd.td_ HO104.out; subst eo8) | ((with_reducible refine va_ (f := 77) rfl ?_); refine lc_ (some 10) rfl rfl Tryz.func77 Qb rfl #[.slice Ao8 y102.length co8, .func (.func 82) #[] #[]] rfl Qm ?_; (with_reducible refine (rr_.calls _ _ y102 true _ ?side1 ?side2 A2.out).mono ?_); (case side1 => repeat (first | exact (Kd.wb_ HO104.out).2.2 | (with_reducible refine Kd.zc_ ?_ _) | (with_reducible refine Kd.ad_ ?_ _) | (with_reducible refine Kd.od_ ?_))); (case side2 => exact (Kd.wb_ HO104.out).2.1); rintro e w9 ⟨rfl, hb⟩; refine ⟨_, rfl, ?_⟩; have n0_ := ba_.mk (Kd.be_ (Qk HO104.out) hb); have n1_ := ba_.mk (pc_ (g := gb101) (o := .cells #[.int .i64 a0_0, .int .i64 a0_1, .int .i64 a0_2, .int .i64 a0_3] 38 (0, 0)) (Qf BK101.out) hb); have n2_ := ba_.mk (hb_ Xh hb); clear HO104; clear BK101; clear HB; have HO104 := n0_; have BK101 := n1_; have HB := n2_; clear n0_ n1_ n2_; (try clear hb); (try clear hb2); (try clear hk); (try clear hi)))
  go_ret
  exact ⟨Qu, Xh⟩
 replace c3 := Bool.eq_false_iff.mpr c3
 subst c3
 have H1 : (if a0_1 ≥ 0 then (some (decide (a0_1 ≤ 9999))) else (some false)) = some r := by rw [if_neg (show ¬ (false = true) by decide)] at H; exact H
 clear H
 have H := H1
 clear H1
 by_cases c10 : a0_1 ≥ 0
 ·rw [if_pos c10] at H
  have c10b0 : decide (0 ≤ a0_1) = true := decide_eq_true c10
  clear c10
  obtain rfl := Option.some.inj H
  go_enter Tryz.func47, Tryz.ntmps47
  go_wp2_with (first | ((with_reducible refine ld_ (N := 1) rfl ?_); refine de_ ?hg (N := 1) ?hd (cs := #[.int .i64 a0_0, .int .i64 a0_1, .int .i64 a0_2, .int .i64 a0_3]) (t := 38) ?hr ?_; (case hd => rfl); (case hg => rfl); (case hr => exact Qt); intro gb101 hg w11 hbox hb; have n0_ := ba_.mk (hb_ Qh hb); have n1_ := ba_.mk (hbox); have n2_ := ba_.mk ((by rw [hg]; exact (pb_ Qh) : w.heap.size ≤ gb101)); have n3_ := ba_.mk ((by rw [hg]; exact (pb_ Qh) : w.heap.size ≤ gb101)); clear HB; have HB := n0_; have BK101 := n1_; have GW101 := n2_; have GE101 := n3_; clear n0_ n1_ n2_ n3_; clear hb hbox hg; have hcz12_0 : w11.cell? ⟨gb101, 0, none⟩ = some (.int .i64 a0_0) := (la_ BK101.out 0).trans rfl; have hcz12_1 : w11.cell? ⟨gb101, 1, none⟩ = some (.int .i64 a0_1) := (la_ BK101.out 1).trans rfl; have hcz12_2 : w11.cell? ⟨gb101, 2, none⟩ = some (.int .i64 a0_2) := (la_ BK101.out 2).trans rfl; have hcz12_3 : w11.cell? ⟨gb101, 3, none⟩ = some (.int .i64 a0_3) := (la_ BK101.out 3).trans rfl; have hfz12_0 := ja_ BK101.out 0; have hfz12_1 := ja_ BK101.out 1; have hfz12_2 := ja_ BK101.out 2; have hfz12_3 := ja_ BK101.out 3) | ((with_reducible refine ld_ (N := 9) rfl ?_); refine Kd.aq_ (Kd.int .i64) _ 3 ?hg (N := 9) ?hd (xs := ([a0_0, a0_2, a0_3] : List Int)) (inner := [.int .i64 a0_0, .int .i64 a0_2, .int .i64 a0_3]) (ok := fun _ => True) (okp := fun _ => True) ?hr ?hp (fun _ hk => hk) trivial (Below.refl _ _) (Nat.le_refl _) Qj ?_; (case hd => rfl); (case hg => rfl); (case hr => exact Qt); (case hp => exact (Reps.one (show Kd.M (Kd.int .i64) _ _ _ a0_0 [.int .i64 a0_0] from rfl) (Reps.one (show Kd.M (Kd.int .i64) _ _ _ a0_2 [.int .i64 a0_2] from rfl) (Reps.one (show Kd.M (Kd.int .i64) _ _ _ a0_3 [.int .i64 a0_3] from rfl) (Reps.none _ _))))); intro v103 w13 ho14 hb hg_ hnew_; clear hg_ hnew_; (first | rw [← Ny102.out] at ho14 | (simp only [Int.reduceToNat] at ho14; rw [← Ny102.out] at ho14)); have n0_ := ba_.mk (Kd.xd_ ho14 (pb_ Xh)); have n1_ := ba_.mk (pc_ (g := gb101) (o := .cells #[.int .i64 a0_0, .int .i64 a0_1, .int .i64 a0_2, .int .i64 a0_3] 38 (0, 0)) (Qf BK101.out) hb); have n2_ := ba_.mk (hb_ Xh hb); clear BK101; clear HB; have HO104 := n0_; have BK101 := n1_; have HB := n2_; clear n0_ n1_ n2_; clear hb ho14; obtain ⟨Ao15, co15, eo15⟩ := Kd.td_ HO104.out; subst eo15) | ((with_reducible refine va_ (f := 77) rfl ?_); refine lc_ (some 10) rfl rfl Tryz.func77 Qb rfl #[.slice Ao15 y102.length co15, .func (.func 82) #[] #[]] rfl Qm ?_; (with_reducible refine (rr_.calls _ _ y102 false _ ?side1 ?side2 A2.out).mono ?_); (case side1 => repeat (first | exact (Kd.wb_ HO104.out).2.2 | (with_reducible refine Kd.zc_ ?_ _) | (with_reducible refine Kd.ad_ ?_ _) | (with_reducible refine Kd.od_ ?_))); (case side2 => exact (Kd.wb_ HO104.out).2.1); rintro e w16 ⟨rfl, hb⟩; refine ⟨_, rfl, ?_⟩; have n0_ := ba_.mk (Kd.be_ (Qk HO104.out) hb); have n1_ := ba_.mk (pc_ (g := gb101) (o := .cells #[.int .i64 a0_0, .int .i64 a0_1, .int .i64 a0_2, .int .i64 a0_3] 38 (0, 0)) (Qf BK101.out) hb); have n2_ := ba_.mk (hb_ Xh hb); clear HO104; clear BK101; clear HB; have HO104 := n0_; have BK101 := n1_; have HB := n2_; clear n0_ n1_ n2_; (try clear hb); (try clear hb2); (try clear hk); (try clear hi); have hcz17_0 : w16.cell? ⟨gb101, 0, none⟩ = some (.int .i64 a0_0) := (la_ BK101.out 0).trans rfl; have hcz17_1 : w16.cell? ⟨gb101, 1, none⟩ = some (.int .i64 a0_1) := (la_ BK101.out 1).trans rfl; have hcz17_2 : w16.cell? ⟨gb101, 2, none⟩ = some (.int .i64 a0_2) := (la_ BK101.out 2).trans rfl; have hcz17_3 : w16.cell? ⟨gb101, 3, none⟩ = some (.int .i64 a0_3) := (la_ BK101.out 3).trans rfl; have hfz17_0 := ja_ BK101.out 0; have hfz17_1 := ja_ BK101.out 1; have hfz17_2 := ja_ BK101.out 2; have hfz17_3 := ja_ BK101.out 3))
  go_ret
  exact ⟨Qu, Xh⟩
 rw [if_neg c10] at H
 have c10b0 : decide (0 ≤ a0_1) = false := decide_eq_false c10
 clear c10
 obtain rfl := Option.some.inj H
 go_enter Tryz.func47, Tryz.ntmps47
 go_wp2_with (first | ((with_reducible refine ld_ (N := 1) rfl ?_); refine de_ ?hg (N := 1) ?hd (cs := #[.int .i64 a0_0, .int .i64 a0_1, .int .i64 a0_2, .int .i64 a0_3]) (t := 38) ?hr ?_; (case hd => rfl); (case hg => rfl); (case hr => exact Qt); intro gb101 hg w18 hbox hb; have n0_ := ba_.mk (hb_ Qh hb); have n1_ := ba_.mk (hbox); have n2_ := ba_.mk ((by rw [hg]; exact (pb_ Qh) : w.heap.size ≤ gb101)); have n3_ := ba_.mk ((by rw [hg]; exact (pb_ Qh) : w.heap.size ≤ gb101)); clear HB; have HB := n0_; have BK101 := n1_; have GW101 := n2_; have GE101 := n3_; clear n0_ n1_ n2_ n3_; clear hb hbox hg; have hcz19_0 : w18.cell? ⟨gb101, 0, none⟩ = some (.int .i64 a0_0) := (la_ BK101.out 0).trans rfl; have hcz19_1 : w18.cell? ⟨gb101, 1, none⟩ = some (.int .i64 a0_1) := (la_ BK101.out 1).trans rfl; have hcz19_2 : w18.cell? ⟨gb101, 2, none⟩ = some (.int .i64 a0_2) := (la_ BK101.out 2).trans rfl; have hcz19_3 : w18.cell? ⟨gb101, 3, none⟩ = some (.int .i64 a0_3) := (la_ BK101.out 3).trans rfl; have hfz19_0 := ja_ BK101.out 0; have hfz19_1 := ja_ BK101.out 1; have hfz19_2 := ja_ BK101.out 2; have hfz19_3 := ja_ BK101.out 3) | ((with_reducible refine ld_ (N := 9) rfl ?_); refine Kd.aq_ (Kd.int .i64) _ 3 ?hg (N := 9) ?hd (xs := ([a0_0, a0_2, a0_3] : List Int)) (inner := [.int .i64 a0_0, .int .i64 a0_2, .int .i64 a0_3]) (ok := fun _ => True) (okp := fun _ => True) ?hr ?hp (fun _ hk => hk) trivial (Below.refl _ _) (Nat.le_refl _) Qj ?_; (case hd => rfl); (case hg => rfl); (case hr => exact Qt); (case hp => exact (Reps.one (show Kd.M (Kd.int .i64) _ _ _ a0_0 [.int .i64 a0_0] from rfl) (Reps.one (show Kd.M (Kd.int .i64) _ _ _ a0_2 [.int .i64 a0_2] from rfl) (Reps.one (show Kd.M (Kd.int .i64) _ _ _ a0_3 [.int .i64 a0_3] from rfl) (Reps.none _ _))))); intro v103 w20 ho21 hb hg_ hnew_; clear hg_ hnew_; (first | rw [← Ny102.out] at ho21 | (simp only [Int.reduceToNat] at ho21; rw [← Ny102.out] at ho21)); have n0_ := ba_.mk (Kd.xd_ ho21 (pb_ Xh)); have n1_ := ba_.mk (pc_ (g := gb101) (o := .cells #[.int .i64 a0_0, .int .i64 a0_1, .int .i64 a0_2, .int .i64 a0_3] 38 (0, 0)) (Qf BK101.out) hb); have n2_ := ba_.mk (hb_ Xh hb); clear BK101; clear HB; have HO104 := n0_; have BK101 := n1_; have HB := n2_; clear n0_ n1_ n2_; clear hb ho21; obtain ⟨Ao22, co22, eo22⟩ := Kd.td_ HO104.out; subst eo22) | ((with_reducible refine va_ (f := 77) rfl ?_); refine lc_ (some 10) rfl rfl Tryz.func77 Qb rfl #[.slice Ao22 y102.length co22, .func (.func 82) #[] #[]] rfl Qm ?_; (with_reducible refine (rr_.calls _ _ y102 false _ ?side1 ?side2 A2.out).mono ?_); (case side1 => repeat (first | exact (Kd.wb_ HO104.out).2.2 | (with_reducible refine Kd.zc_ ?_ _) | (with_reducible refine Kd.ad_ ?_ _) | (with_reducible refine Kd.od_ ?_))); (case side2 => exact (Kd.wb_ HO104.out).2.1); rintro e w23 ⟨rfl, hb⟩; refine ⟨_, rfl, ?_⟩; have n0_ := ba_.mk (Kd.be_ (Qk HO104.out) hb); have n1_ := ba_.mk (pc_ (g := gb101) (o := .cells #[.int .i64 a0_0, .int .i64 a0_1, .int .i64 a0_2, .int .i64 a0_3] 38 (0, 0)) (Qf BK101.out) hb); have n2_ := ba_.mk (hb_ Xh hb); clear HO104; clear BK101; clear HB; have HO104 := n0_; have BK101 := n1_; have HB := n2_; clear n0_ n1_ n2_; (try clear hb); (try clear hb2); (try clear hk); (try clear hi); have hcz24_0 : w23.cell? ⟨gb101, 0, none⟩ = some (.int .i64 a0_0) := (la_ BK101.out 0).trans rfl; have hcz24_1 : w23.cell? ⟨gb101, 1, none⟩ = some (.int .i64 a0_1) := (la_ BK101.out 1).trans rfl; have hcz24_2 : w23.cell? ⟨gb101, 2, none⟩ = some (.int .i64 a0_2) := (la_ BK101.out 2).trans rfl; have hcz24_3 : w23.cell? ⟨gb101, 3, none⟩ = some (.int .i64 a0_3) := (la_ BK101.out 3).trans rfl; have hfz24_0 := ja_ BK101.out 0; have hfz24_1 := ja_ BK101.out 1; have hfz24_2 := ja_ BK101.out 2; have hfz24_3 := ja_ BK101.out 3))
 go_ret
 exact ⟨Qu, Xh⟩
def if_.f (a0_0 : Int) (a0_1 : Int) (a0_2 : Int) (a0_3 : Int) : Option (List Int × Int) := (mg_.f a0_0 a0_1 a0_2 a0_3).bind fun t107 => (if t107 = true then (some ((([a0_0, wrap64 (Int.tdiv a0_1 1024), Int.tmod (wrap64 (Int.tdiv a0_1 32)) 32, Int.tmod a0_1 32, a0_2, a0_3] : List Int)), 0)) else (some (([] : List Int), 2)))
set_option maxHeartbeats 8000000 in
set_option maxRecDepth 100000 in
theorem if_.calls (a0_0 : Int) (a0_1 : Int) (a0_2 : Int) (a0_3 : Int) (r1 : List Int) (r2 : Int) (w : World) (h : if_.f a0_0 a0_1 a0_2 a0_3 = some (r1, r2)) :
  Calls Tryz.prog 36 #[.agg #[.int .i64 a0_0, .int .i64 a0_1, .int .i64 a0_2, .int .i64 a0_3]] w fun e w' => ∃ v0_ : Value, e = .returned (.tuple #[v0_, .int .i64 r2]) ∧ Kd.R (Kd.int .i64) 3 w' w.heap.size (fun _ => True) v0_ r1 ∧ Below w.heap.size w w' := by
 have hu38 := Tryz.underlying38
 have HB := ba_.mk (Below.refl w.heap.size w)
 have H : ((mg_.f a0_0 a0_1 a0_2 a0_3).bind fun t107 => (if t107 = true then (some ((([a0_0, wrap64 (Int.tdiv a0_1 1024), Int.tmod (wrap64 (Int.tdiv a0_1 32)) 32, Int.tmod a0_1 32, a0_2, a0_3] : List Int)), 0)) else (some (([] : List Int), 2)))) = some (r1, r2) := h
 clear h
 obtain ⟨t107, A2, H⟩ := Qo H
 try dsimp only at H
 by_cases c3 : t107 = true
 rotate_left
 ·replace c3 := Bool.eq_false_iff.mpr c3
  subst c3
  have H1 : (some (([] : List Int), 2)) = some (r1, r2) := by rw [if_neg (show ¬ (false = true) by decide)] at H; exact H
  clear H
  have H := H1
  clear H1
  simp only [Option.some.injEq, Prod.mk.injEq] at H
  obtain ⟨rfl, rfl⟩ := H
  go_enter Tryz.func36, Tryz.ntmps36
  go_wp2_with (first | ((with_reducible refine ld_ (N := 1) rfl ?_); refine de_ ?hg (N := 1) ?hd (cs := #[.int .i64 a0_0, .int .i64 a0_1, .int .i64 a0_2, .int .i64 a0_3]) (t := 38) ?hr ?_; (case hd => rfl); (case hg => rfl); (case hr => exact Qt); intro gb106 hg w10 hbox hb; have n0_ := ba_.mk (hb_ Qh hb); have n1_ := ba_.mk (hbox); have n2_ := ba_.mk ((by rw [hg]; exact (pb_ Qh) : w.heap.size ≤ gb106)); have n3_ := ba_.mk ((by rw [hg]; exact (pb_ Qh) : w.heap.size ≤ gb106)); clear HB; have HB := n0_; have BK106 := n1_; have GW106 := n2_; have GE106 := n3_; clear n0_ n1_ n2_ n3_; clear hb hbox hg; have hcz11_0 : w10.cell? ⟨gb106, 0, none⟩ = some (.int .i64 a0_0) := (la_ BK106.out 0).trans rfl; have hcz11_1 : w10.cell? ⟨gb106, 1, none⟩ = some (.int .i64 a0_1) := (la_ BK106.out 1).trans rfl; have hcz11_2 : w10.cell? ⟨gb106, 2, none⟩ = some (.int .i64 a0_2) := (la_ BK106.out 2).trans rfl; have hcz11_3 : w10.cell? ⟨gb106, 3, none⟩ = some (.int .i64 a0_3) := (la_ BK106.out 3).trans rfl; have hfz11_0 := ja_ BK106.out 0; have hfz11_1 := ja_ BK106.out 1; have hfz11_2 := ja_ BK106.out 2; have hfz11_3 := ja_ BK106.out 3) | ((with_reducible refine va_ (f := 47) rfl ?_); refine lc_ (some 5) rfl rfl Tryz.func47 Qb rfl #[.agg #[.int .i64 a0_0, .int .i64 a0_1, .int .i64 a0_2, .int .i64 a0_3]] rfl Qm ?_; (with_reducible refine (mg_.calls a0_0 a0_1 a0_2 a0_3 false _ A2.out).mono ?_); rintro e w12 ⟨rfl, hb⟩; refine ⟨_, rfl, ?_⟩; have n0_ := ba_.mk (pc_ (g := gb106) (o := .cells #[.int .i64 a0_0, .int .i64 a0_1, .int .i64 a0_2, .int .i64 a0_3] 38 (0, 0)) (Qf BK106.out) hb); have n1_ := ba_.mk (hb_ X7 hb); clear BK106; clear HB; have BK106 := n0_; have HB := n1_; clear n0_ n1_; (try clear hb); (try clear hb2); (try clear hk); (try clear hi)))
  go_ret2
  exact ⟨_, Qu, Q9, X7⟩
 subst c3
 have H1 : (some ((([a0_0, wrap64 (Int.tdiv a0_1 1024), Int.tmod (wrap64 (Int.tdiv a0_1 32)) 32, Int.tmod a0_1 32, a0_2, a0_3] : List Int)), 0)) = some (r1, r2) := by rw [if_pos rfl] at H; exact H
 clear H
 have H := H1
 clear H1
 obtain ⟨y108, hy108⟩ : ∃ y_ : List Int, y_ = (([a0_0, wrap64 (Int.tdiv a0_1 1024), Int.tmod (wrap64 (Int.tdiv a0_1 32)) 32, Int.tmod a0_1 32, a0_2, a0_3] : List Int)) := ⟨_, rfl⟩
 replace H : (some (y108, 0)) = some (r1, r2) := by first | (rw [hy108]; with_reducible exact H) | (have H2_ := (Option.bind_some _ _).symm.trans H; rw [hy108]; with_reducible exact H2_) | (have H2_ := (Option.bind_some _ _).symm.trans H; with_reducible exact H2_) | with_reducible exact H | (rw [hy108]; exact H) | exact H
 have Ny108 := ba_.mk hy108
 clear hy108
 simp only [Option.some.injEq, Prod.mk.injEq] at H
 obtain ⟨rfl, rfl⟩ := H
 go_enter Tryz.func36, Tryz.ntmps36
 go_wp2_with (first | ((with_reducible refine ld_ (N := 1) rfl ?_); refine de_ ?hg (N := 1) ?hd (cs := #[.int .i64 a0_0, .int .i64 a0_1, .int .i64 a0_2, .int .i64 a0_3]) (t := 38) ?hr ?_; (case hd => rfl); (case hg => rfl); (case hr => exact Qt); intro gb106 hg w4 hbox hb; have n0_ := ba_.mk (hb_ Qh hb); have n1_ := ba_.mk (hbox); have n2_ := ba_.mk ((by rw [hg]; exact (pb_ Qh) : w.heap.size ≤ gb106)); have n3_ := ba_.mk ((by rw [hg]; exact (pb_ Qh) : w.heap.size ≤ gb106)); clear HB; have HB := n0_; have BK106 := n1_; have GW106 := n2_; have GE106 := n3_; clear n0_ n1_ n2_ n3_; clear hb hbox hg; have hcz5_0 : w4.cell? ⟨gb106, 0, none⟩ = some (.int .i64 a0_0) := (la_ BK106.out 0).trans rfl; have hcz5_1 : w4.cell? ⟨gb106, 1, none⟩ = some (.int .i64 a0_1) := (la_ BK106.out 1).trans rfl; have hcz5_2 : w4.cell? ⟨gb106, 2, none⟩ = some (.int .i64 a0_2) := (la_ BK106.out 2).trans rfl; have hcz5_3 : w4.cell? ⟨gb106, 3, none⟩ = some (.int .i64 a0_3) := (la_ BK106.out 3).trans rfl; have hfz5_0 := ja_ BK106.out 0; have hfz5_1 := ja_ BK106.out 1; have hfz5_2 := ja_ BK106.out 2; have hfz5_3 := ja_ BK106.out 3) | ((with_reducible refine va_ (f := 47) rfl ?_); refine lc_ (some 5) rfl rfl Tryz.func47 Qb rfl #[.agg #[.int .i64 a0_0, .int .i64 a0_1, .int .i64 a0_2, .int .i64 a0_3]] rfl Qm ?_; (with_reducible refine (mg_.calls a0_0 a0_1 a0_2 a0_3 true _ A2.out).mono ?_); rintro e w6 ⟨rfl, hb⟩; refine ⟨_, rfl, ?_⟩; have n0_ := ba_.mk (pc_ (g := gb106) (o := .cells #[.int .i64 a0_0, .int .i64 a0_1, .int .i64 a0_2, .int .i64 a0_3] 38 (0, 0)) (Qf BK106.out) hb); have n1_ := ba_.mk (hb_ X7 hb); clear BK106; clear HB; have BK106 := n0_; have HB := n1_; clear n0_ n1_; (try clear hb); (try clear hb2); (try clear hk); (try clear hi); have hcz7_0 : w6.cell? ⟨gb106, 0, none⟩ = some (.int .i64 a0_0) := (la_ BK106.out 0).trans rfl; have hcz7_1 : w6.cell? ⟨gb106, 1, none⟩ = some (.int .i64 a0_1) := (la_ BK106.out 1).trans rfl; have hcz7_2 : w6.cell? ⟨gb106, 2, none⟩ = some (.int .i64 a0_2) := (la_ BK106.out 2).trans rfl; have hcz7_3 : w6.cell? ⟨gb106, 3, none⟩ = some (.int .i64 a0_3) := (la_ BK106.out 3).trans rfl; have hfz7_0 := ja_ BK106.out 0; have hfz7_1 := ja_ BK106.out 1; have hfz7_2 := ja_ BK106.out 2; have hfz7_3 := ja_ BK106.out 3) | ((with_reducible refine ld_ (N := 23) rfl ?_); refine Kd.aq_ (Kd.int .i64) _ 3 ?hg (N := 23) ?hd (xs := ([a0_0, wrap64 (Int.tdiv a0_1 1024), Int.tmod (wrap64 (Int.tdiv a0_1 32)) 32, Int.tmod a0_1 32, a0_2, a0_3] : List Int)) (inner := [.int .i64 a0_0, .int .i64 (wrap64 (Int.tdiv a0_1 1024)), .int .i64 (Int.tmod (wrap64 (Int.tdiv a0_1 32)) 32), .int .i64 (Int.tmod a0_1 32), .int .i64 a0_2, .int .i64 a0_3]) (ok := fun _ => True) (okp := fun _ => True) ?hr ?hp (fun _ hk => hk) trivial (Below.refl _ _) (Nat.le_refl _) Qj ?_; (case hd => rfl); (case hg => rfl); (case hr => exact Qt); (case hp => exact (Reps.one (show Kd.M (Kd.int .i64) _ _ _ a0_0 [.int .i64 a0_0] from rfl) (Reps.one (show Kd.M (Kd.int .i64) _ _ _ (wrap64 (Int.tdiv a0_1 1024)) [.int .i64 (wrap64 (Int.tdiv a0_1 1024))] from rfl) (Reps.one (show Kd.M (Kd.int .i64) _ _ _ (Int.tmod (wrap64 (Int.tdiv a0_1 32)) 32) [.int .i64 (Int.tmod (wrap64 (Int.tdiv a0_1 32)) 32)] from rfl) (Reps.one (show Kd.M (Kd.int .i64) _ _ _ (Int.tmod a0_1 32) [.int .i64 (Int.tmod a0_1 32)] from rfl) (Reps.one (show Kd.M (Kd.int .i64) _ _ _ a0_2 [.int .i64 a0_2] from rfl) (Reps.one (show Kd.M (Kd.int .i64) _ _ _ a0_3 [.int .i64 a0_3] from rfl) (Reps.none _ _)))))))); intro v109 w8 ho9 hb hg_ hnew_; clear hg_ hnew_; (first | rw [← Ny108.out] at ho9 | (simp only [Int.reduceToNat] at ho9; rw [← Ny108.out] at ho9)); have n0_ := ba_.mk (Kd.xd_ ho9 (pb_ X7)); have n1_ := ba_.mk (pc_ (g := gb106) (o := .cells #[.int .i64 a0_0, .int .i64 a0_1, .int .i64 a0_2, .int .i64 a0_3] 38 (0, 0)) (Qf BK106.out) hb); have n2_ := ba_.mk (hb_ X7 hb); clear BK106; clear HB; have HO110 := n0_; have BK106 := n1_; have HB := n2_; clear n0_ n1_ n2_; clear hb ho9))
 go_ret2
 exact ⟨_, Qu, by (with_reducible repeat (first | apply Kd.bb_ | apply Kd.cb_ | apply Kd.sb_)); exact HO110.out, X7⟩
def tf_.f (a0 : ByteArray) : Option (Bool) := if (a0.size : Int) = 74 then ((vq_.f a0 (⟨#[48, 49, 63]⟩ : ByteArray)).bind fun t111 => (some (t111.toList == ([] : List UInt8)))) else (some false)
set_option maxHeartbeats 8000000 in
set_option maxRecDepth 100000 in
theorem tf_.calls (a0 : ByteArray) (r : Bool) (w : World) (h : tf_.f a0 = some r) :
  Calls Tryz.prog 42 #[.string a0] w fun e w' => e = .returned (.bool r) ∧ Below w.heap.size w w' := by
 have HB := ba_.mk (Below.refl w.heap.size w)
 have H : (if (a0.size : Int) = 74 then ((vq_.f a0 (⟨#[48, 49, 63]⟩ : ByteArray)).bind fun t111 => (some (t111.toList == ([] : List UInt8)))) else (some false)) = some r := h
 clear h
 by_cases c2 : (a0.size : Int) = 74
 rotate_left
 ·rw [if_neg c2] at H
  have c2b0 : ((a0.size : Int) == 74) = false := beq_eq_false_iff_ne.mpr c2
  have c2b1 : ((a0.size : Int) != 74) = true := bne_iff_ne.mpr c2
  obtain rfl := Option.some.inj H
  go_enter Tryz.func42, Tryz.ntmps42
  go_wp2
  go_ret
  exact ⟨Qu, Qh⟩
 rw [if_pos c2] at H
 have c2b0 : ((a0.size : Int) == 74) = true := beq_iff_eq.mpr c2
 have c2b1 : ((a0.size : Int) != 74) = false := bne_eq_false_iff_eq.mpr c2
 clear c2
 obtain ⟨t111, A3, H⟩ := Qo H
 try dsimp only at H
 obtain rfl := Option.some.inj H
 go_enter Tryz.func42, Tryz.ntmps42
 go_wp2_with (first | (go_at_call 75; (with_reducible refine (vq_.calls a0 (⟨#[48, 49, 63]⟩ : ByteArray) t111 _ A3.out).mono ?_); rintro e w4 ⟨rfl, hb⟩; have n0_ := ba_.mk (hb_ Qh hb); clear HB; have HB := n0_; clear n0_; (try clear hb); (try clear hb2); (try clear hk); (try clear hi)))
 go_ret
 exact ⟨Qu, Qh⟩
def ej_.f (a0 : ByteArray) : Option (Bool) := if 0 ≤ 7 then (if 7 ≤ (a0.size : Int) then ((l_Count.f (a0.extract 0 7) (⟨#[49]⟩ : ByteArray)).bind fun t112 => (if t112 ≥ 4 then (if 67 ≤ (a0.size : Int) then ((l_Count.f (a0.extract 67 a0.size) (⟨#[48]⟩ : ByteArray)).bind fun t113 => (some (decide (t113 ≥ 4)))) else (none)) else (some false))) else (none)) else (none)
set_option maxHeartbeats 8000000 in
set_option maxRecDepth 100000 in
theorem ej_.calls (a0 : ByteArray) (r : Bool) (w : World) (h : ej_.f a0 = some r) :
  Calls Tryz.prog 56 #[.string a0] w fun e w' => e = .returned (.bool r) ∧ Below w.heap.size w w' := by
 have HB := ba_.mk (Below.refl w.heap.size w)
 have H : (if 0 ≤ 7 then (if 7 ≤ (a0.size : Int) then ((l_Count.f (a0.extract 0 7) (⟨#[49]⟩ : ByteArray)).bind fun t112 => (if t112 ≥ 4 then (if 67 ≤ (a0.size : Int) then ((l_Count.f (a0.extract 67 a0.size) (⟨#[48]⟩ : ByteArray)).bind fun t113 => (some (decide (t113 ≥ 4)))) else (none)) else (some false))) else (none)) else (none)) = some r := h
 clear h
 obtain ⟨c2, H⟩ := Qq H
 have c2b0 := eq_true c2
 have c2b1 := decide_eq_true c2
 clear c2
 by_cases c3 : 7 ≤ (a0.size : Int)
 rotate_left
 ·rw [if_neg c3] at H
  exact absurd H Qj
 rw [if_pos c3] at H
 have c3b0 := eq_true c3
 have c3b1 := decide_eq_true c3
 clear c3
 obtain ⟨t112, A4, H⟩ := Qo H
 try dsimp only at H
 by_cases c5 : t112 ≥ 4
 rotate_left
 ·rw [if_neg c5] at H
  have c5b0 : decide (4 ≤ t112) = false := decide_eq_false c5
  clear c5
  obtain rfl := Option.some.inj H
  go_enter Tryz.func56, Tryz.ntmps56
  go_wp2_with (first | ((with_reducible refine va_ (f := 86) rfl ?_); refine lc_ (some 5) rfl rfl Tryz.func86 Qb rfl #[.string (a0.extract 0 7), .string (⟨#[49]⟩ : ByteArray)] rfl Qm ?_; (with_reducible refine (l_Count.calls (a0.extract 0 7) (⟨#[49]⟩ : ByteArray) t112 _ A4.out).mono ?_); rintro e w10 ⟨rfl, hb⟩; refine ⟨_, rfl, ?_⟩; have n0_ := ba_.mk (hb_ Qh hb); clear HB; have HB := n0_; clear n0_; (try clear hb); (try clear hb2); (try clear hk); (try clear hi)))
  go_ret
  exact ⟨Qu, Qh⟩
 rw [if_pos c5] at H
 have c5b0 : decide (4 ≤ t112) = true := decide_eq_true c5
 clear c5
 obtain ⟨c6, H⟩ := Qq H
 have c6b0 := eq_true c6
 have c6b1 := decide_eq_true c6
 clear c6
 obtain ⟨t113, A7, H⟩ := Qo H
 try dsimp only at H
 obtain rfl := Option.some.inj H
 go_enter Tryz.func56, Tryz.ntmps56
 go_wp2_with (first | ((with_reducible refine va_ (f := 86) rfl ?_); refine lc_ (some 5) rfl rfl Tryz.func86 Qb rfl #[.string (a0.extract 0 7), .string (⟨#[49]⟩ : ByteArray)] rfl Qm ?_; (with_reducible refine (l_Count.calls (a0.extract 0 7) (⟨#[49]⟩ : ByteArray) t112 _ A4.out).mono ?_); rintro e w8 ⟨rfl, hb⟩; refine ⟨_, rfl, ?_⟩; have n0_ := ba_.mk (hb_ Qh hb); clear HB; have HB := n0_; clear n0_; (try clear hb); (try clear hb2); (try clear hk); (try clear hi)) | (go_at_call 86; (with_reducible refine (l_Count.calls (a0.extract 67 a0.size) (⟨#[48]⟩ : ByteArray) t113 _ A7.out).mono ?_); rintro e w9 ⟨rfl, hb⟩; have n0_ := ba_.mk (hb_ Qh hb); clear HB; have HB := n0_; clear n0_; (try clear hb); (try clear hb2); (try clear hk); (try clear hi)))
 go_ret
 exact ⟨Qu, Qh⟩
end Go.Proofs.YtpkhgapifnjbeaaGreatDoor.TA
end
section
namespace Go.Proofs.YtpkhgapifnjbeaaGreatDoor.TA
open RowKit G Zw.PrintWords Zw.PrintLast Zw.PrintMore
attribute [local go_sem] pd_ rd_ yd_ zd_ dd_ ed_ qd_ sd_
end Go.Proofs.YtpkhgapifnjbeaaGreatDoor.TA
end
section
namespace Go.Proofs.YtpkhgapifnjbeaaGreatDoor.G
open RowKit Go.Sort Go.Lib.Hx Zw.PrintWords Zw.PrintLast Zw.PrintMore
def qf_ (s : ByteArray) (j : Nat) : Int := (numsOf s).getD j 0
def symTo (s : ByteArray) (i : Nat) : Nat → Int
 | 0 => 0
 | k + 1 => symTo s i k * 2 + (qf_ s (7 + i * 5 + k) - 48) % 256
def hasQ (s : ByteArray) (i : Nat) : Bool := (List.range 5).any fun k => decide (qf_ s (7 + i * 5 + k) = 63)
def symS (s : ByteArray) (i : Nat) : Int := if hasQ s i = true then -1 else symTo s i 5
def zj_ (s : ByteArray) (i : Nat) : List Int := (List.range i).map (symS s) ++ List.replicate (12 - i) 0
def qg_ (s : ByteArray) : List Int := (List.range 12).map (symS s)
theorem nw_ (s : ByteArray) (j : Nat) : 0 ≤ qf_ s j ∧ qf_ s j < 256 := numsOf_range s j
theorem mz_ (s : ByteArray) (i : Nat) : ∀ k, 0 ≤ symTo s i k ∧ symTo s i k ≤ 300 * (2 ^ k - 1 : Nat)
 | 0 => ⟨Int.le_refl _, Int.le_refl _⟩
 | k + 1 => by
  have ih := mz_ s i k
  have h1 : (2 : Nat) ^ (k + 1) = 2 * 2 ^ k := by rw [Nat.pow_succ, Nat.mul_comm]
  have h2 : 1 ≤ (2 : Nat) ^ k := Nat.one_le_two_pow
  simp only [symTo]
  rw [h1]
  generalize (2 : Nat) ^ k = q at *
  omega
theorem nz_ (s : ByteArray) (i k : Nat) (hk : k ≤ 5) : 0 ≤ symTo s i k ∧ symTo s i k ≤ 9300 := by
 have h := mz_ s i k
 have h2 : (2 : Nat) ^ k ≤ 2 ^ 5 := Nat.pow_le_pow_right Qc hk
 have h3 : (2 : Nat) ^ 5 = 32 := rfl
 omega
theorem bt_ (s : ByteArray) (i : Nat) (hi : i ≤ 12) : (zj_ s i).length = 12 := by
 unfold zj_; rw [List.length_append, List.length_map, List.length_range, List.length_replicate]; omega
def kp_ (s : ByteArray) (i k : Nat) : List Int := (zj_ s i).set i (symTo s i k)
theorem hb1_ (s : ByteArray) (i : Nat) (hi : i < 12) : kp_ s i 0 = zj_ s i := by
 unfold kp_ zj_
 apply List.ext_getElem
 ·simp
 intro j h1 h2
 rw [List.getElem_set]
 by_cases h : i = j
 ·subst h
  rw [if_pos rfl, List.getElem_append_right Qj]
  simp [symTo]
 ·rw [if_neg h]
theorem hh1_ (s : ByteArray) (i k : Nat) (hi : i < 12) : rdOf (0 : Int) (kp_ s i k) (i : Int) = symTo s i k := by
 unfold rdOf kp_
 rw [Int.toNat_natCast, List.getD_eq_getElem?_getD, List.getElem?_set]
 rw [if_pos rfl, if_pos (by rw [bt_ s i Qa]; exact hi)]; rfl
theorem hw_ (s : ByteArray) (i k : Nat) (v : Int) : (kp_ s i k).set i v = (zj_ s i).set i v := by
 unfold kp_; rw [List.set_set]
theorem kr_ (s : ByteArray) (i : Nat) (hi : i < 12) : (zj_ s i).set i (symS s i) = zj_ s (i + 1) := by
 unfold zj_
 apply List.ext_getElem
 ·simp; omega
 intro j h1 h2
 rw [List.getElem_set]
 simp only [List.length_set, List.length_append, List.length_map, List.length_range, List.length_replicate] at h1
 by_cases h : i = j
 ·subst h
  rw [if_pos rfl, List.getElem_append_left Qj]
  simp
 rw [if_neg h]
 by_cases hlt : j < i
 ·rw [List.getElem_append_left (by simpa using hlt), List.getElem_append_left (by simp; omega)]
  simp
 rw [List.getElem_append_right (by simp; omega), List.getElem_append_right (by simp; omega)]
 simp
theorem pf1_ (s : ByteArray) (a j : Nat) (hj : j < 5) (h : a + 5 ≤ s.size) : qf_ ((s.extract a s.size).extract 0 5) j = qf_ s (a + j) := by
 have e : ((s.extract a s.size).extract 0 5).data.toList = (s.data.toList.drop a).take 5 := by
  simp [ByteArray.extract, ByteArray.copySlice]
 unfold qf_ numsOf
 rw [e, List.getD_eq_getElem?_getD, List.getD_eq_getElem?_getD, List.getElem?_map, List.getElem?_map, List.getElem?_take, if_pos hj, List.getElem?_drop]
theorem re1_ (s : ByteArray) : zj_ s 12 = qg_ s := by unfold zj_ qg_; simp
theorem con_l (l a0 : ByteArray) (i : Nat) (hl : l.size = 5) (hx : ∀ j, j < 5 → qf_ l j = qf_ a0 (7 + i * 5 + j)) : pj_.f l ⟨#[63]⟩ = some (hasQ a0 i) := by
 show some (decide (0 ≤ Lib.indexByte l.data.toList 63)) = _
 rw [← Lib.contains_iff_indexByte]
 congr 1
 have hn : l.data.toList.length = 5 := by rw [Array.length_toList]; exact hl
 have hb : ∀ j (h : j < l.data.toList.length), qf_ l j = (l.data.toList[j].toNat : Int) := by
  intro j h
  unfold qf_ numsOf
  rw [List.getD_eq_getElem?_getD, List.getElem?_map, List.getElem?_eq_getElem h]; rfl
 rw [Bool.eq_iff_iff, List.contains_iff_mem]
 unfold hasQ
 rw [List.any_eq_true]
 constructor
 ·intro hm
  obtain ⟨j, hj, e⟩ := List.mem_iff_getElem.1 hm
  refine ⟨j, List.mem_range.2 Qa, decide_eq_true ?_⟩
  rw [← hx j Qa, hb j hj, e]; rfl
 rintro ⟨j, hj, e⟩
 have hj5 := List.mem_range.1 hj
 have e2 := of_decide_eq_true e
 rw [← hx j hj5, hb j Qa] at e2
 have : l.data.toList[j]'Qa = 63 := by
  apply UInt8.toNat_inj.1
  have : (63 : UInt8).toNat = 63 := rfl
  omega
 rw [← this]; exact List.getElem_mem _
set_option maxHeartbeats 1000000 in
set_option maxRecDepth 100000 in
theorem mi_.walk (a0 : ByteArray) (w : World) (h74 : a0.size = 74) (hv : Go.Proofs.YtpkhgapifnjbeaaGreatDoor.TA.tf_.f a0 = some true) :
  Calls Tryz.prog 12 #[.string a0] w fun e w' => ∃ v0_ : Value, e = .returned (.tuple #[v0_, .int .i64 0]) ∧ Kd.R (Kd.int .i64) 3 w' w.heap.size (fun _ => True) v0_ (qg_ a0) ∧ Below w.heap.size w w' := by
 have hcv := fun (w : World) (s : ByteArray) => run_bytes_of_string (P := Tryz.prog) w 9 74 5 s Tryz.underlying9 Tryz.underlying74 Tryz.underlying5
 have i3 : (Tryz.prog.info? 3).map (fun i => (i.zero, i.size, i.bytes)) = some (some (.int .i64 0), 1, 8) := by kernel_rfl
 have I3 := Lib.hid i3
 clear i3
 have H74 := Lib.hid h74
 have s1 : a0.size ≤ 74 := by omega
 have s2 : 74 ≤ a0.size := by omega
 clear h74
 go_enter Tryz.func12, Tryz.ntmps12
 go_wp2_with (first | (go_at_call 42; refine (Go.Proofs.YtpkhgapifnjbeaaGreatDoor.TA.tf_.calls a0 true _ hv).mono ?_; rintro e w1 ⟨rfl, hb⟩; have HB1 := Lib.hid hb; clear hb) | ((with_reducible refine ld_ (N := 12) rfl ?_); refine Kd.bq_ (Kd.int .i64) w.heap.size 3 rfl (N := 12) rfl 22 _ _ rfl 12 rfl rfl Tryz.underlying22 (.int .i64 0) 8 I3.out rfl Qc Qa 0 (ok := fun _ => True) (okp := fun _ => True) rfl (fun _ hk => hk) trivial Qa Qa HB1.out HB1.out.size ?_; intro v1 w2 ho1 hb1 hg1_ hnew_; clear hg1_ hnew_; have HO := Lib.hid (show Kd.R (Kd.int .i64) 3 w2 w.heap.size (fun _ => True) v1 (zj_ a0 0) from ho1); have HW := Lib.hid hb1; clear ho1 hb1; obtain ⟨gw, cw, eo, hgo, hgl⟩ : ∃ gw cw, v1 = .slice (some ⟨gw, 0, none⟩) 12 cw ∧ w.heap.size ≤ gw ∧ gw < w2.heap.size := (by obtain ⟨g, c, e, h1, h2, _⟩ := Kd.zi_ HO.out (show 0 < 12 by decide); exact ⟨g, c, e, h1, h2⟩); subst eo))
 go_loopw [15] (fun v wr => ∃ i : Nat, i ≤ 12 ∧ v = .int .i64 i ∧ Hid (Kd.R (Kd.int .i64) 3 wr w.heap.size (fun _ => True) (.slice (some ⟨gw, 0, none⟩) 12 cw) (zj_ a0 i)) ∧ Hid (Below w.heap.size w wr)) (fun v _ => 12 - (RowKit.intOf v).toNat)
 case atStart => exact ⟨0, Qa, rfl, HO, HW⟩
 case round =>
  clear HO HW hgl
  obtain ⟨i, hi, rfl, HO, HW⟩ := hrel
  obtain ⟨w3, rfl⟩ : ∃ x : World, x = wr := ⟨_, rfl⟩
  by_cases hlt : i < 12
  rotate_left
  ·obtain rfl : i = 12 := by omega
   go_wp2
   go_ret2
   exact ⟨_, rfl, by rw [← re1_]; exact HO.out, HW.out⟩
  go_wp2
  rw [show min 5 (a0.size - (7 + i * 5)) = 5 from by omega]
  have HH := bytes_holds w3 ((a0.extract (7 + i * 5) a0.size).extract 0 5)
  have HX := fun j hj => pf1_ a0 (7 + i * 5) j hj Qa
  have HL : ((a0.extract (7 + i * 5) a0.size).extract 0 5).size = 5 := by simp; omega
  generalize hll : (a0.extract (7 + i * 5) a0.size).extract 0 5 = l at *
  have HLL := Lib.hid hll
  clear hll
  generalize grownCap w3 5 0 5 = c
  have HC := Lib.hid (show ∀ j : Nat, j < 5 → ((w3.alloc (.cells (bytesRow l c) 5 ((bytesRow l c).size, (bytesRow l c).size + 1))).drew).cell? ⟨w3.heap.size, j, none⟩ = some (.int .u8 (qf_ a0 (7 + i * 5 + j))) from fun j hj => by
   have hs : j < (numsOf l).toArray.size := by rw [bn_]; omega
   have := (HH c j hs).1
   rw [Nat.zero_add] at this
   rw [this, getElem!_pos _ j hs, ← HX j hj]
   unfold qf_
   rw [List.getElem_toArray, List.getD_eq_getElem?_getD, List.getElem?_eq_getElem (by simpa using hs)]; rfl)
  have HX2 := Lib.hid HX
  have HLL5 := Lib.hid HL
  clear HH HX HL
  have HO4 : Hid (Kd.R (Kd.int .i64) 3 ((w3.alloc (.cells (bytesRow l c) 5 ((bytesRow l c).size, (bytesRow l c).size + 1))).drew) w.heap.size (fun _ => True) (.slice (some ⟨gw, 0, none⟩) 12 cw) (kp_ a0 i 0)) := Lib.hid (by rw [hb1_ a0 i hlt]; exact Kd.sb_ (Kd.bb_ HO.out _))
  have HB4 : Hid (Below w.heap.size w ((w3.alloc (.cells (bytesRow l c) 5 ((bytesRow l c).size, (bytesRow l c).size + 1))).drew)) := Lib.hid (ca_ (HW.out.alloc HW.out.size _))
  have hgl : gw < w3.heap.size := by
   obtain ⟨g, c, e, h1, h2, _⟩ := Kd.zi_ HO.out (by rw [bt_ a0 i hi]; decide)
   injection e with e _ _
   injection e with e
   injection e with e _ _
   rw [e]; exact h2
  have hwb : w.heap.size ≤ w3.heap.size := HW.out.size
  generalize (w3.alloc (.cells (bytesRow l c) 5 ((bytesRow l c).size, (bytesRow l c).size + 1))).drew = w4 at HC HO4 HB4 ⊢
  clear HO HW hcv
  generalize w3.heap.size = B at *
  go_loopw [27] (fun v wr => ∃ k : Nat, k ≤ 5 ∧ v = .int .i64 k ∧ Hid (Kd.R (Kd.int .i64) 3 wr w.heap.size (fun _ => True) (.slice (some ⟨gw, 0, none⟩) 12 cw) (kp_ a0 i k)) ∧ Hid (Below w.heap.size w wr) ∧ Hid (∀ j : Nat, j < 5 → wr.cell? ⟨B, j, none⟩ = some (.int .u8 (qf_ a0 (7 + i * 5 + j))))) (fun v _ => 5 - (RowKit.intOf v).toNat)
  case atStart => exact ⟨0, Qa, rfl, HO4, HB4, HC⟩
  case round =>
   clear HO4 HB4 HC
   obtain ⟨k, hk, rfl, HO, HB, HC⟩ := hrel
   obtain ⟨w5, rfl⟩ : ∃ x : World, x = wr := ⟨_, rfl⟩
   by_cases hk5 : k < 5
   ·have hc := HC.out k hk5
    have hb := nw_ a0 (7 + i * 5 + k)
    have hs := nz_ a0 i k hk
    obtain ⟨sr, sf⟩ := Kd.ph_ (0 : Int) HO.out (i : Int) Qa Qa
    rw [Int.toNat_natCast, hh1_ a0 i k hlt] at sr
    rw [Int.toNat_natCast] at sf
    have HP := Kd.wo_ HO.out (i : Int) (symTo a0 i k * 2 + (qf_ a0 (7 + i * 5 + k) - 48) % 256)
    rw [Int.toNat_natCast, hw_] at HP
    have HP1 := Lib.hid (show Kd.R (Kd.int .i64) 3 (w5.setCell ⟨gw, i, none⟩ (.int .i64 (symTo a0 i k * 2 + (qf_ a0 (7 + i * 5 + k) - 48) % 256))) w.heap.size (fun _ => True) (.slice (some ⟨gw, 0, none⟩) 12 cw) (kp_ a0 i (k + 1)) from HP)
    clear HP
    go_wp2
    go_roundw
    case rel => exact ⟨k + 1, Qa, by go_num, HP1, Lib.hid (HB.out.setCell (p := ⟨gw, i, none⟩) hgo _), Lib.hid (fun j hj => (World.cell?_setCell_other (h := show (⟨gw, i, none⟩ : Addr) ≠ ⟨B, j, none⟩ from fun q => by injection q with q _ _; omega) ..).trans (HC.out j hj))⟩
    case measure => simp [RowKit.intOf]; omega
   obtain rfl : k = 5 := by omega
   have hcon := con_l l a0 i HLL5.out HX2.out
   cases hq : hasQ a0 i
   ·rw [hq] at hcon
    have HCON := Lib.hid hcon
    have HS := Lib.hid (show kp_ a0 i 5 = zj_ a0 (i + 1) from by rw [← kr_ a0 i hlt]; unfold kp_ symS; rw [hq]; rfl)
    clear hcon hq
    go_wp2_with (first | (go_at_call 43; refine (pj_.calls l ⟨#[63]⟩ false _ HCON.out).mono ?_; rintro e w6 ⟨rfl, hb⟩; have HB6 := Lib.hid (hb_ HB.out hb); have HO6 := Lib.hid (Kd.be_ HO.out hb); clear hb))
    go_roundw
    case rel => exact ⟨i + 1, Qa, by go_num, Lib.hid (by rw [← HS.out]; exact HO6.out), HB6⟩
    case measure => simp [RowKit.intOf]; omega
   rw [hq] at hcon
   have HCON := Lib.hid hcon
   have HS := Lib.hid (show (kp_ a0 i 5).set i (-1) = zj_ a0 (i + 1) from by rw [hw_, ← kr_ a0 i hlt]; unfold symS; rw [hq]; rfl)
   clear hcon hq
   go_wp2_with (first | (go_at_call 43; refine (pj_.calls l ⟨#[63]⟩ true _ HCON.out).mono ?_; rintro e w6 ⟨rfl, hb⟩; have HB6 := Lib.hid (hb_ HB.out hb); have HO6 := Lib.hid (Kd.be_ HO.out hb); clear hb; obtain ⟨sr, sf⟩ := Kd.ph_ (0 : Int) HO6.out (i : Int) Qa Qa; rw [Int.toNat_natCast] at sr sf; have HP := Kd.wo_ HO6.out (i : Int) (-1); rw [Int.toNat_natCast, HS.out] at HP; have HP1 := Lib.hid HP; clear HP))
   go_roundw
   case rel => exact ⟨i + 1, Qa, by go_num, HP1, Lib.hid (HB6.out.setCell (p := ⟨gw, i, none⟩) hgo _)⟩
   case measure => simp [RowKit.intOf]; omega
def mi_.f (s : ByteArray) : Option (List Int × Int) := (Go.Proofs.YtpkhgapifnjbeaaGreatDoor.TA.tf_.f s).bind fun v => if v = true then some (qg_ s, 0) else some ([], 7)
set_option maxHeartbeats 1000000 in
set_option maxRecDepth 100000 in
theorem mi_.calls (a0 : ByteArray) (r1 : List Int) (r2 : Int) (w : World) (h : mi_.f a0 = some (r1, r2)) :
  Calls Tryz.prog 12 #[.string a0] w fun e w' => ∃ v0_ : Value, e = .returned (.tuple #[v0_, .int .i64 r2]) ∧ Kd.R (Kd.int .i64) 3 w' w.heap.size (fun _ => True) v0_ r1 ∧ Below w.heap.size w w' := by
 unfold mi_.f at h
 cases hv : Go.Proofs.YtpkhgapifnjbeaaGreatDoor.TA.tf_.f a0 with
 | none => rw [hv] at h; cases h
 | some v =>
  rw [hv] at h
  simp only [Option.bind_some] at h
  cases v with
  | true =>
   rw [if_pos rfl] at h
   obtain ⟨rfl, rfl⟩ := Prod.mk.inj (Option.some.inj h)
   have h74 : a0.size = 74 := by
    unfold Go.Proofs.YtpkhgapifnjbeaaGreatDoor.TA.tf_.f at hv
    by_cases e : (a0.size : Int) = 74
    ·omega
    ·rw [if_neg e] at hv; cases hv
   exact mi_.walk a0 w h74 hv
  | false =>
   rw [if_neg Qj] at h
   obtain ⟨rfl, rfl⟩ := Prod.mk.inj (Option.some.inj h)
   clear h
   go_enter Tryz.func12, Tryz.ntmps12
   go_wp2_with (first | (go_at_call 42; refine (Go.Proofs.YtpkhgapifnjbeaaGreatDoor.TA.tf_.calls a0 false _ hv).mono ?_; rintro e w1 ⟨rfl, hb⟩; have HB1 := Lib.hid hb; clear hb))
   go_ret2
   exact ⟨_, rfl, Kd.vf_ _ _ _ _ _, HB1.out⟩
end Go.Proofs.YtpkhgapifnjbeaaGreatDoor.G
end
section
namespace Go.Proofs.YtpkhgapifnjbeaaGreatDoor.G
open RowKit Rs Zw.PrintWords Zw.PrintLast Zw.PrintMore
def ix_ : List UInt8 := [49, 49, 49, 49, 49, 49, 49]
def gp_ : List UInt8 := [48, 48, 48, 48, 48, 48, 48]
def bitB (x : Int) (j : Nat) : UInt8 := if (x.toNat / 2 ^ (4 - j)) % 2 = 1 then 49 else 48
def vh_ (x : Int) (j : Nat) : List UInt8 := (List.range j).map (bitB x)
def ci_ (ws : List Int) (i : Nat) : List UInt8 := ix_ ++ (ws.take i).flatMap fun x => vh_ x 5
def yh_ (ws : List Int) : ByteArray := ⟨(ci_ ws ws.length ++ gp_).toArray⟩
abbrev IsB (B b : Nat) (l : List UInt8) (w : World) : Prop := Lib.IsBuilder 76 5 B b (Lib.byteCells l) w
theorem hv_ {B b : Nat} {l : List UInt8} {W W' : World} (h : IsB B b l W) (hb : Below W.heap.size W W') : IsB B b l W' := by
 have key : ∀ p, Lib.BuilderAt 76 5 B b p (Lib.byteCells l) W → Lib.BuilderAt 76 5 B b p (Lib.byteCells l) W' := by
  rintro p ⟨hB, v, hbk, hown, hne⟩
  have hlt : b < W.heap.size := Lib.BuilderAt.lt ⟨hB, v, hbk, hown, hne⟩
  exact ⟨hB, v, (hb.block b hlt).trans hbk, yy_ hown (fun k hk => hb.block k (vd1_ hown k hk)), hne⟩
 rcases h with h | h
 ·exact .inl (key _ h)
 ·exact .inr (key _ h)
theorem pu_ (l m : List UInt8) : Lib.byteCells l ++ Lib.byteCells m = Lib.byteCells (l ++ m) := by simp [Lib.byteCells]
theorem rep7 (ch : UInt8) (w : World) : Calls Tryz.prog 39 #[.string ⟨#[ch]⟩, .int .i64 7] w fun e w' => e = .returned (.string ⟨(List.replicate 7 ch).toArray⟩) ∧ Below w.heap.size w w' := by
 have := Any.strings_Repeat Tryz.laysX Tryz.laysX_extra ⟨#[ch]⟩ 7 w Qc (by show 1 * 7 ≤ _; decide)
 exact this
theorem wrS (B b n : Nat) (l m : List UInt8) (s : ByteArray) (hs : s = ⟨m.toArray⟩) (hn : m.length = n) (w : World) (h : IsB B b l w) (hl : l.length + m.length ≤ 100000) (hB : B ≤ w.heap.size) :
  Calls Tryz.prog 38 #[.pointer (some ⟨b, 0, none⟩), .string s] w fun e w' => e = .returned (.tuple #[.int .i64 n, .nilIface]) ∧ IsB B b (l ++ m) w' ∧ Below B w w' := by
 subst hs hn
 have hz : (⟨m.toArray⟩ : ByteArray).size = m.length := by simp [ByteArray.size]
 refine (Any.Builder_WriteString Tryz.laysX166 Tryz.laysX_extra B b (Lib.byteCells l) ⟨m.toArray⟩ w h (by rw [hz]; simp [Lib.byteCells]; omega) hB).mono ?_
 rintro e w' ⟨rfl, h2, h3⟩
 refine ⟨by rw [hz], .inr ?_, h3⟩
 rw [Lib.strCells_eq, pu_] at h2
 exact h2
theorem wrB (B b : Nat) (l : List UInt8) (c : UInt8) (x : Int) (hx : x = (c.toNat : Int)) (w : World) (h : IsB B b l w) (hl : l.length ≤ 100000) (hB : B ≤ w.heap.size) :
  Calls Tryz.prog 40 #[.pointer (some ⟨b, 0, none⟩), .int .u8 x] w fun e w' => e = .returned .nilIface ∧ IsB B b (l ++ [c]) w' ∧ Below B w w' := by
 subst hx
 refine (Any.Builder_WriteByte Tryz.laysX167 Tryz.laysX_extra B b (Lib.byteCells l) c.toNat w h (by simp [Lib.byteCells]; omega) hB).mono ?_
 rintro e w' ⟨rfl, h2, h3⟩
 exact ⟨rfl, .inr (by rw [← pu_]; exact h2), h3⟩
theorem strF (B b : Nat) (l : List UInt8) (w : World) (h : IsB B b l w) (hB : B ≤ w.heap.size) :
  Calls Tryz.prog 41 #[.pointer (some ⟨b, 0, none⟩)] w fun e w' => e = .returned (.string ⟨l.toArray⟩) ∧ Below B w w' :=
 Any.Builder_String_any Tryz.laysX169 Tryz.laysX_extra B b l w h hB
theorem yi1_ : ∀ x : Fin 32, ∀ j : Fin 5, (48 + Go.bits .and .i64 ((x.1 : Int) / 2 ^ (4 - j.1)) 1) % 256 = ((bitB (x.1 : Int) j.1).toNat : Int) := by decide +kernel
theorem bit_at {x : Int} {j : Nat} (h0 : 0 ≤ x) (h1 : x < 32) (hj : j < 5) : (48 + Go.bits .and .i64 (x / 2 ^ (4 - j)) 1) % 256 = ((bitB x j).toNat : Int) := by
 obtain ⟨n, rfl⟩ := Int.eq_ofNat_of_zero_le h0
 exact yi1_ ⟨n, Qa⟩ ⟨j, hj⟩
theorem sw_ (ws : List Int) : ci_ ws 0 = ix_ := by simp [ci_]
theorem is_ (ws : List Int) (i : Nat) (hi : i ≤ ws.length) (h : ws.length ≤ 100) : (ci_ ws i).length ≤ 600 := by
 have : ∀ l : List Int, (l.flatMap fun x => vh_ x 5).length = 5 * l.length := by
  intro l
  induction l with
  | nil => rfl
  | cons a l ih => rw [List.flatMap_cons, List.length_append, ih]; simp [vh_]; omega
 unfold ci_
 rw [List.length_append, this, List.length_take]
 have : ix_.length = 7 := rfl
 omega
theorem rw_ (ws : List Int) (i : Nat) (hi : i < ws.length) : ci_ ws i ++ vh_ (rd ws (i : Int)) 5 = ci_ ws (i + 1) := by
 unfold ci_
 rw [List.take_succ_eq_append_getElem hi, List.flatMap_append, List.append_assoc, df_, List.getD_eq_getElem?_getD, List.getElem?_eq_getElem hi]
 simp
theorem fx_ (x : Int) (j : Nat) : vh_ x j ++ [bitB x j] = vh_ x (j + 1) := by
 unfold vh_; rw [List.range_succ, List.map_append]; rfl
theorem cl_ (x : Int) (j : Nat) : (vh_ x j).length = j := by simp [vh_]
set_option maxHeartbeats 1000000 in
set_option maxRecDepth 100000 in
theorem vj_.walk (a b c d : Int) (w : World) (ds cw : List Int) (hs : Go.Proofs.YtpkhgapifnjbeaaGreatDoor.TA.if_.f a b c d = some (ds, 0)) (he : zu_.f ds = some (cw, 0)) (hel : tl_ cw = true) (hl : cw.length ≤ 100) :
  Calls Tryz.prog 11 #[.agg #[.int .i64 a, .int .i64 b, .int .i64 c, .int .i64 d]] w fun e w' => e = .returned (.tuple #[.string (yh_ cw), .int .i64 0]) ∧ Below w.heap.size w w' := by
 have hcA := fun W => Go.Proofs.YtpkhgapifnjbeaaGreatDoor.TA.if_.calls a b c d ds 0 W hs
 go_enter Tryz.func11, Tryz.ntmps11
 have HBW := Lib.hid (show Below w.heap.size w (w.alloc (.cells #[.int .i64 a, .int .i64 b, .int .i64 c, .int .i64 d] 38)) from (Below.refl _ _).alloc (Nat.le_refl _) _)
 go_wp2_with (first | (go_at_call 36; refine (hcA _).mono ?_; rintro e w1 ⟨v1, rfl, ho, hb⟩; have HB1 := Lib.hid (hb_ HBW.out hb); have HO1 := Lib.hid ho; clear ho hb; obtain ⟨A1, c1, e1⟩ := Kd.td_ HO1.out; subst e1) | (go_at_call 37; refine (zu_.calls A1 c1 ds cw 0 _ (Kd.wb_ HO1.out).2.2 (Kd.wb_ HO1.out).2.1 he).mono ?_; rintro e w3 ⟨v2, rfl, ho, hb⟩; have HB3 := Lib.hid (hb_ HB1.out hb); have HO3 := Lib.hid ho; clear ho hb; obtain ⟨A2, c2, e2⟩ := Kd.td_ HO3.out; subst e2; have hf := Lib.fresh_isBuilder 76 5 w3; have HF := Lib.hid (show IsB w3.heap.size w3.heap.size [] _ from hf); clear hf; have HBB := Lib.hid ((Below.refl w3.heap.size w3).alloc (Nat.le_refl _) (.cells #[.pointer none, .slice none 0 0] 76))) | fail)
 refine (rep7 49 _).mono ?_
 rintro e w4 ⟨rfl, hb⟩
 have HF4 := Lib.hid (hv_ HF.out hb)
 have HB4 := Lib.hid (HBB.out.trans (hb.mono HBB.out.size))
 clear hb HF HBB
 generalize hgb : w3.heap.size = B at HF4 HB4 ⊢
 have HGB := Lib.hid hgb
 clear hgb
 go_wp2_with fail
 refine (wrS B B 7 [] ix_ _ rfl rfl _ HF4.out Qc (Nat.le_trans (by rw [HGB.out]; exact Nat.le_refl _) HB4.out.size)).mono ?_
 rintro e w5 ⟨rfl, h5, hb5⟩
 have HF5 := Lib.hid (show IsB B B (ci_ cw 0) w5 from by rw [sw_]; exact h5)
 have HB5 := Lib.hid (HB4.out.trans hb5)
 clear h5 hb5 HF4 HB4
 have HC3 := Lib.hid (Kd.wb_ HO3.out).2.2
 go_wp2_with fail
 go_loopw [29] (fun v wr => ∃ i : Nat, i ≤ cw.length ∧ v = .int .i64 i ∧ Hid (IsB B B (ci_ cw i) wr) ∧ Hid (Below B w3 wr)) (fun v _ => cw.length - (RowKit.intOf v).toNat)
 case atStart => exact ⟨0, Qa, rfl, HF5, HB5⟩
 case round =>
  clear HF5 HB5
  obtain ⟨i, hi, rfl, HF, HB⟩ := hrel
  obtain ⟨w6, rfl⟩ : ∃ x : World, x = wr := ⟨_, rfl⟩
  by_cases hlt : i < cw.length
  rotate_left
  ·obtain rfl : i = cw.length := by omega
   have HLN := Lib.hid (is_ cw cw.length hi hl)
   go_wp2_with fail
   refine (rep7 48 _).mono ?_
   rintro e w7 ⟨rfl, hb⟩
   have HF7 := Lib.hid (hv_ HF.out hb)
   have HB7 := Lib.hid (HB.out.trans (hb.mono (by have := HB.out.size; rw [HGB.out] at this; exact this)))
   clear hb HF HB
   go_wp2_with fail
   refine (wrS B B 7 (ci_ cw cw.length) gp_ _ rfl rfl _ HF7.out (by have := HLN.out; show _ + 7 ≤ _; omega) (by have := HB7.out.size; rw [HGB.out] at this; exact this)).mono ?_
   rintro e w8 ⟨rfl, h8, hb8⟩
   have HF8 := Lib.hid h8
   have HB8 := Lib.hid (HB7.out.trans hb8)
   clear h8 hb8 HF7 HB7
   go_wp2_with fail
   refine (strF B B _ _ HF8.out (by have := HB8.out.size; rw [HGB.out] at this; exact this)).mono ?_
   rintro e w9 ⟨rfl, hb9⟩
   have HB9 := Lib.hid (HB8.out.trans hb9)
   clear hb9 HF8 HB8
   go_wp2_with fail
   go_ret2
   exact ⟨rfl, HB3.out.trans (HB9.out.mono (by rw [← HGB.out]; exact HB3.out.size))⟩
  have hC := Kd.re_ HC3.out (show Below w3.heap.size w3 w6 from by rw [HGB.out]; exact HB.out)
  obtain ⟨ad, e1, hx⟩ := Kd.ee_ hC (i : Int) Qa Qa
  subst e1
  rw [Int.toNat_natCast] at hx
  have hxe := (le_ _).1 (kn_ hel i hlt)
  rw [← df_] at hxe
  obtain ⟨hx0, hx1⟩ := hxe
  have HSC := Lib.hid (rw_ cw i hlt)
  have HLN := Lib.hid (is_ cw i hi hl)
  clear hC
  generalize hxx : rd cw (i : Int) = x at *
  have HXX := Lib.hid hxx
  clear hxx
  go_wp2_with fail
  go_loopw [33] (fun v wr => ∃ j : Nat, j ≤ 5 ∧ v = .int .i64 j ∧ Hid (IsB B B (ci_ cw i ++ vh_ x j) wr) ∧ Hid (Below B w3 wr)) (fun v _ => 5 - (RowKit.intOf v).toNat)
  case atStart => exact ⟨0, Qa, rfl, Lib.hid (by simpa [vh_] using HF.out), HB⟩
  case round =>
   clear HF HB hx
   obtain ⟨j, hj, rfl, HF, HB⟩ := hrel
   obtain ⟨w7, rfl⟩ : ∃ x : World, x = wr := ⟨_, rfl⟩
   by_cases hj5 : j < 5
   rotate_left
   ·obtain rfl : j = 5 := by omega
    go_wp2_with fail
    go_roundw
    case rel => exact ⟨i + 1, Qa, by go_num, Lib.hid (by rw [← HSC.out]; exact HF.out), HB⟩
    case measure => simp [RowKit.intOf]; omega
   have HBT := Lib.hid (bit_at hx0 hx1 hj5)
   go_wp2_with fail
   refine (wrB B B (ci_ cw i ++ vh_ x j) (bitB x j) _ HBT.out _ HF.out (by rw [List.length_append, cl_]; have := HLN.out; omega) (by have := HB.out.size; rw [HGB.out] at this; exact this)).mono ?_
   rintro e w8 ⟨rfl, h8, hb8⟩
   have HF8 := Lib.hid (show IsB B B (ci_ cw i ++ vh_ x (j + 1)) w8 from by rw [← fx_, ← List.append_assoc]; exact h8)
   have HB8 := Lib.hid (HB.out.trans hb8)
   clear h8 hb8 HF HB HBT
   go_wp2_with fail
   go_roundw
   case rel => exact ⟨j + 1, Qa, by go_num, HF8, HB8⟩
   case measure => simp [RowKit.intOf]; omega
def vj_.f (a b c d : Int) : Option (ByteArray × Int) := (Go.Proofs.YtpkhgapifnjbeaaGreatDoor.TA.if_.f a b c d).bind fun p => if p.2 = 0 then (zu_.f p.1).bind fun q => (if q.2 = 0 ∧ tl_ q.1 = true ∧ q.1.length ≤ 100 then some (yh_ q.1, 0) else none) else some (⟨#[]⟩, p.2)
set_option maxHeartbeats 1000000 in
set_option maxRecDepth 100000 in
theorem vj_.calls (a b c d : Int) (r1 : ByteArray) (r2 : Int) (w : World) (h : vj_.f a b c d = some (r1, r2)) :
  Calls Tryz.prog 11 #[.agg #[.int .i64 a, .int .i64 b, .int .i64 c, .int .i64 d]] w fun e w' => e = .returned (.tuple #[.string r1, .int .i64 r2]) ∧ Below w.heap.size w w' := by
 unfold vj_.f at h
 cases hs : Go.Proofs.YtpkhgapifnjbeaaGreatDoor.TA.if_.f a b c d with
 | none => rw [hs] at h; cases h
 | some p =>
  obtain ⟨ds, e⟩ := p
  rw [hs] at h
  simp only [Option.bind_some] at h
  by_cases h0 : e = 0
  rotate_left
  ·rw [if_neg h0] at h
   obtain ⟨rfl, rfl⟩ := Prod.mk.inj (Option.some.inj h)
   clear h
   have hcA := fun W => Go.Proofs.YtpkhgapifnjbeaaGreatDoor.TA.if_.calls a b c d ds e W hs
   have hb1 : (e != 0) = true := bne_iff_ne.2 h0
   have hb2 : (e == 0) = false := beq_eq_false_iff_ne.2 h0
   clear h0
   have HBW := Lib.hid (show Below w.heap.size w (w.alloc (.cells #[.int .i64 a, .int .i64 b, .int .i64 c, .int .i64 d] 38)) from (Below.refl _ _).alloc (Nat.le_refl _) _)
   go_enter Tryz.func11, Tryz.ntmps11
   go_wp2_with (first | (go_at_call 36; refine (hcA _).mono ?_; rintro e w1 ⟨v1, rfl, ho, hb⟩; have HB1 := Lib.hid (hb_ HBW.out hb); clear ho hb))
   go_ret2
   exact ⟨rfl, HB1.out⟩
  subst h0
  rw [if_pos rfl] at h
  cases he : zu_.f ds with
  | none => rw [he] at h; cases h
  | some q =>
   obtain ⟨cw, e2⟩ := q
   rw [he] at h
   simp only [Option.bind_some] at h
   by_cases hq : e2 = 0 ∧ tl_ cw = true ∧ cw.length ≤ 100
   rotate_left
   ·rw [if_neg hq] at h; cases h
   rw [if_pos hq] at h
   obtain ⟨rfl, rfl⟩ := Prod.mk.inj (Option.some.inj h)
   obtain ⟨rfl, h1, h2⟩ := hq
   exact vj_.walk a b c d w ds cw hs he h1 h2
end Go.Proofs.YtpkhgapifnjbeaaGreatDoor.G
end
section
namespace Go.Proofs.YtpkhgapifnjbeaaGreatDoor.G
open RowKit Zw.PrintWords
def rk_.f (a b c d : Int) : Option Bool := Go.Proofs.YtpkhgapifnjbeaaGreatDoor.TA.mg_.f a b c d
theorem rk_.calls (a b c d : Int) (r : Bool) (w : World) (h : rk_.f a b c d = some r) :
  Calls Tryz.prog 47 #[.agg #[.int .i64 a, .int .i64 b, .int .i64 c, .int .i64 d]] w fun e w' => e = .returned (.bool r) ∧ Below w.heap.size w w' := Go.Proofs.YtpkhgapifnjbeaaGreatDoor.TA.mg_.calls a b c d r w h
def sk_.f (s : ByteArray) : Option Bool := Go.Proofs.YtpkhgapifnjbeaaGreatDoor.TA.tf_.f s
theorem sk_.calls (s : ByteArray) (r : Bool) (w : World) (h : sk_.f s = some r) :
  Calls Tryz.prog 42 #[.string s] w fun e w' => e = .returned (.bool r) ∧ Below w.heap.size w w' := Go.Proofs.YtpkhgapifnjbeaaGreatDoor.TA.tf_.calls s r w h
def nf_.f (s : ByteArray) : Option Bool := Go.Proofs.YtpkhgapifnjbeaaGreatDoor.TA.ej_.f s
theorem nf_.calls (s : ByteArray) (r : Bool) (w : World) (h : nf_.f s = some r) :
  Calls Tryz.prog 56 #[.string s] w fun e w' => e = .returned (.bool r) ∧ Below w.heap.size w w' := Go.Proofs.YtpkhgapifnjbeaaGreatDoor.TA.ej_.calls s r w h
end Go.Proofs.YtpkhgapifnjbeaaGreatDoor.G
end
section
namespace Go.Proofs.YtpkhgapifnjbeaaGreatDoor.G
open RowKit Rs
theorem ly_ {c : List Int} (h : lf_ c = true) : ∀ m, m ≤ c.length → eraN c m = [] := by
 intro m
 induction m with
 | zero => intro _; rfl
 | succ m ih =>
  intro hm
  simp only [eraN]
  have := (le_ _).1 (jo_ h m Qa)
  rw [ih Qa, if_neg Qa]; rfl
theorem of1_ (c : List Int) : ∀ m, errN c c m = 0 := by
 intro m
 induction m with
 | zero => rfl
 | succ m ih => simp only [errN]; rw [ih, if_neg (fun h => h.2 rfl)]
end Go.Proofs.YtpkhgapifnjbeaaGreatDoor.G
end
section
namespace Go.Proofs.YtpkhgapifnjbeaaGreatDoor.G
open RowKit Rs
theorem vz_ {c c' : List Int} (h : lf_ c = true) (h' : lf_ c' = true) (hl : c'.length = c.length) (P : Nat → Bool) (hP : ∀ i, i < c.length → P i = false → c'.getD i 0 = c.getD i 0) (h6 : (posN P c.length).length ≤ 6) : c = c' := by
 have hD : bf_ c.length (posN P c.length) := az_ h6
 have hag : ∀ i, i < c.length → (i : Int) ∉ posN P c.length → c'.getD i 0 = c.getD i 0 := by
  intro i hi hm
  refine hP i hi (Bool.eq_false_iff.2 fun hp => hm ((jg_ _).2 ⟨i, hi, hp, rfl⟩))
 have hl2 := (uo_ (fh_ h).1).2.2
 exact yg_.uniq hl2 hD (rn_ h hD rfl (fun i hi _ => rfl)) (rn_ h' hD hl hag)
theorem up_ {x : List Int} {p : Nat} {v : Int} (hp : p < x.length) : (x.set p v).getD p 0 = v := by rw [tn_, if_pos ⟨rfl, hp⟩]
theorem co_ {x : List Int} {p m : Nat} {v : Int} (h : p ≠ m) : (x.set p v).getD m 0 = x.getD m 0 := by rw [tn_, if_neg (fun q => h q.1)]
theorem jj1_ {x c : List Int} {p : Nat} {v : Int} (hp : p < x.length) (h0 : x.getD p 0 = c.getD p 0) (hv : 0 ≤ v) (hn : v ≠ c.getD p 0) : ∀ m, errN (x.set p v) c m = errN x c m + if p < m then 1 else 0 := by
 intro m
 induction m with
 | zero => rfl
 | succ m ih =>
  simp only [errN]
  rw [ih]
  by_cases e : p = m
  ·subst e
   rw [up_ hp, if_pos (show 0 ≤ v ∧ v ≠ c.getD p 0 from ⟨hv, hn⟩), if_neg (show ¬ (0 ≤ x.getD p 0 ∧ x.getD p 0 ≠ c.getD p 0) from fun q => q.2 h0), if_neg (Nat.lt_irrefl p), if_pos (Nat.lt_succ_self p)]
  rw [co_ e]
  by_cases h : p < m
  ·rw [if_pos h, if_pos (show p < m + 1 by omega)]; omega
  ·rw [if_neg h, if_neg (show ¬ p < m + 1 by omega)]; omega
theorem vu_ {x : List Int} {p : Nat} {v : Int} (hp : p < x.length) (h0 : 0 ≤ x.getD p 0) (hv : 0 ≤ v) : ∀ m, eraN (x.set p v) m = eraN x m := by
 intro m
 induction m with
 | zero => rfl
 | succ m ih =>
  simp only [eraN]
  rw [ih]
  by_cases e : p = m
  ·subst e
   rw [up_ hp, if_neg (show ¬ v < 0 by omega), if_neg (show ¬ x.getD p 0 < 0 by omega)]
  ·rw [co_ e]
theorem rc1_ {x c : List Int} {p : Nat} {v : Int} (hp : p < x.length) (h0 : x.getD p 0 = c.getD p 0) (hv : v < 0) : ∀ m, errN (x.set p v) c m = errN x c m := by
 intro m
 induction m with
 | zero => rfl
 | succ m ih =>
  simp only [errN]
  rw [ih]
  by_cases e : p = m
  ·subst e
   rw [up_ hp, if_neg (show ¬ (0 ≤ v ∧ v ≠ c.getD p 0) by omega), if_neg (show ¬ (0 ≤ x.getD p 0 ∧ x.getD p 0 ≠ c.getD p 0) from fun q => q.2 h0)]
  ·rw [co_ e]
theorem qc1_ {x : List Int} {p : Nat} {v : Int} (hp : p < x.length) (h0 : 0 ≤ x.getD p 0) (hv : v < 0) : ∀ m, (eraN (x.set p v) m).length = (eraN x m).length + if p < m then 1 else 0 := by
 intro m
 induction m with
 | zero => rfl
 | succ m ih =>
  simp only [eraN, List.length_append]
  rw [ih]
  by_cases e : p = m
  ·subst e
   rw [up_ hp, if_pos hv, if_neg (show ¬ x.getD p 0 < 0 by omega), if_neg (Nat.lt_irrefl p), if_pos (Nat.lt_succ_self p)]; rfl
  rw [co_ e]
  by_cases h : p < m
  ·rw [if_pos h, if_pos (show p < m + 1 by omega)]; omega
  ·rw [if_neg h, if_neg (show ¬ p < m + 1 by omega)]; omega
end Go.Proofs.YtpkhgapifnjbeaaGreatDoor.G
end
