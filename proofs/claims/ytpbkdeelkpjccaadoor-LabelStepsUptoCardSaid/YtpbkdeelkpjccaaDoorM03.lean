/- Merged by merge.py out of: G0, Hidx, Hset, GnfaTablebegin, Hparts. -/
import Derived.Test.YtpbkdeelkpjccaaDoorProg
import Derived.Below
import Derived.Deep.Draws
import Derived.Deep.AppendLies
import Derived.Maps.AppendAt
import Derived.OwnWalk
import Derived.Laws.BytesArg
import Derived.Laws.MakeOwn
import Derived.Laws.OwnMore
import Derived.Deep.OwnRows
import Derived.Tactics
import Derived.Lib.ConvBytes
import Derived.Laws.Slices
import Derived.WalkKit
import Derived.KernelRfl
import Derived.RowKit3
import Derived.Deep.LoopGhost
import Derived.Deep.QuietTactic
import Derived.BigQuiet
import Derived.WideLaws
import Derived.Deep.DeepCutAuto
import Derived.Deep.CutBlock
import Derived.Deep.RegionHeld3
import Derived.Laws.Rows
import Derived.Lib.AppendStr
import Derived.ArgAppend
import Derived.Laws.IdiomCopy
import Derived.OrdersHeld
import Derived.Laws.BitsLemmas
import Derived.RowKit
import Derived.Test.YtpbkdeelkpjccaaDoorM00
import Derived.Test.YtpbkdeelkpjccaaDoorM01
import Derived.Test.YtpbkdeelkpjccaaDoorM02
import Derived.Shelf.Abstract
import Derived.Outline
import Derived.RegionTactic
import Derived.WalkSmall
import Derived.Laws.Bits64b
import Derived.ChangeAlike
import Derived.RangeFuncNested
import Derived.RangeFuncBound
import Derived.RangeFuncCalls
import Derived.RangeFuncLeaves
import Derived.Shelf.RegionOpen
import Derived.OwnWalkIn
import Derived.TacticsInMore
import Derived.LoopNIn
import Derived.LoopIn
import Derived.Sort.LoopGhostIn
import Derived.Stop.RegionWithIn
-- Laid by xprint.py (this work's own driver of the kit's printer).
namespace Go.Proofs.YtpbkdeelkpjccaaDoor.G
open Go.RowKit Go.Proofs.YtpbkdeelkpjccaaDoorW.PrintWords Go.Proofs.YtpbkdeelkpjccaaDoorW.PrintLast Go.Proofs.YtpbkdeelkpjccaaDoorW.PrintMore
attribute [local go_sem] max2_int min2_int max_two min_two max_three min_three max_four min_four   -- for this text's walks alone
set_option linter.unusedVariables false
set_option linter.unusedSimpArgs false
def errW : Option Int → Value
  | none => .nilIface
  | some c => .iface 0 (.int .i64 c)
theorem errW_none : errW none = .nilIface := rfl
theorem errW_some (c : Int) : errW (some c) = .iface 0 (.int .i64 c) := rfl
theorem info3 : (Tryd.prog.info? 3).map (fun i => (i.zero, i.size, i.bytes)) = some (some (.int .i64 0), 1, 8) := by kernel_rfl
theorem info9 : (Tryd.prog.info? 9).map (fun i => (i.zero, i.size, i.bytes)) = some (some (.string ⟨#[]⟩), 1, 16) := by kernel_rfl
theorem info34 : (Tryd.prog.info? 34).map (fun i => (i.zero, i.size, i.bytes)) = some (some (.agg #[(.int .i64 0), (.string ⟨#[]⟩), (.string ⟨#[]⟩), (.slice none 0 0)]), 4, 64) := by kernel_rfl
theorem info48 : (Tryd.prog.info? 48).map (fun i => (i.zero, i.size, i.bytes)) = some (some (.slice none 0 0), 1, 24) := by kernel_rfl
theorem info71 : (Tryd.prog.info? 71).map (fun i => (i.zero, i.size, i.bytes)) = some (some (.agg #[(.int .i64 0), (.string ⟨#[]⟩)]), 2, 24) := by kernel_rfl
-- the values' own types
structure S34 where
  f0 : Int
  f1 : ByteArray
  f2 : ByteArray
  f3 : (List Int)
def z34 : S34 := ⟨(0 : Int), (⟨#[]⟩ : ByteArray), (⟨#[]⟩ : ByteArray), ([] : List Int)⟩
def k34 : Kd S34 := Kd.iso (Kd.pair (Kd.int .i64) (Kd.pair Kd.string (Kd.pair Kd.string (Kd.slice 3 (Kd.int .i64))))) (fun x : S34 => (x.f0, x.f1, x.f2, x.f3))
theorem k34_open {w : World} {x : S34} {cs : List Value} (h : k34.K w x cs) : ∃ A3 c3, cs = [.int .i64 x.f0, .string x.f1, .string x.f2, .slice A3 x.f3.length c3] ∧ x.f3.length ≤ c3 ∧ (Kd.int .i64).C w A3 x.f3.length x.f3 := by
  obtain ⟨_, _, rfl, rfl, ⟨_, _, rfl, rfl, ⟨_, _, rfl, rfl, ⟨A3, c3, rfl, l3, g3⟩⟩⟩⟩ := h
  exact ⟨A3, c3, rfl, l3, g3⟩
theorem k34_mk (w : World) (x : S34) {A3 : Option Addr} {c3 : Nat} (l3 : x.f3.length ≤ c3) (g3 : (Kd.int .i64).C w A3 x.f3.length x.f3) : k34.K w x [.int .i64 x.f0, .string x.f1, .string x.f2, .slice A3 x.f3.length c3] := ⟨[.int .i64 x.f0], [.string x.f1, .string x.f2, .slice A3 x.f3.length c3], rfl, rfl, ⟨[.string x.f1], [.string x.f2, .slice A3 x.f3.length c3], rfl, rfl, ⟨[.string x.f2], [.slice A3 x.f3.length c3], rfl, rfl, ⟨A3, c3, rfl, l3, g3⟩⟩⟩⟩
theorem k34_mkM (w : World) (base : Nat) (ok : Nat → Prop) (x : S34) {v3 : Value} (g3 : (Kd.int .i64).R 3 w base ok v3 x.f3) : k34.M w base ok x [.int .i64 x.f0, .string x.f1, .string x.f2, v3] := ⟨[.int .i64 x.f0], [.string x.f1, .string x.f2, v3], rfl, rfl, ⟨[.string x.f1], [.string x.f2, v3], rfl, rfl, ⟨[.string x.f2], [v3], rfl, rfl, ⟨v3, rfl, g3⟩⟩⟩⟩
theorem k34_mkF (W : World) (ok : Nat → Prop) (x : S34) {A3 : Option Addr} {c3 : Nat} (l3 : x.f3.length ≤ c3) (g3 : Kd.F (Kd.int .i64) W ok A3 x.f3.length x.f3) : Kd.FK k34 W ok x [.int .i64 x.f0, .string x.f1, .string x.f2, .slice A3 x.f3.length c3] := fun W2 hW => k34_mk W2 x l3 (g3 W2 hW)
def rd_T34 (xs : List S34) (i : Int) : S34 := xs.getD i.toNat z34
theorem at_T34 {w : World} {A : Option Addr} {n : Nat} {xs : List S34} (h : Kd.C k34 w A n xs) (i : Int) (h0 : 0 ≤ i) (h1 : i < n) : ∃ ad A3 c3, A = some ad ∧ w.cell? (ad.add (i.toNat * 4)) = some (.int .i64 (rd_T34 xs i).f0) ∧ w.cell? ⟨(ad.add (i.toNat * 4)).block, (ad.add (i.toNat * 4)).off + 1, none⟩ = some (.string (rd_T34 xs i).f1) ∧ w.cell? ⟨(ad.add (i.toNat * 4)).block, (ad.add (i.toNat * 4)).off + 2, none⟩ = some (.string (rd_T34 xs i).f2) ∧ w.cell? ⟨(ad.add (i.toNat * 4)).block, (ad.add (i.toNat * 4)).off + 3, none⟩ = some (.slice A3 (rd_T34 xs i).f3.length c3) ∧ (rd_T34 xs i).f3.length ≤ c3 ∧ (Kd.int .i64).C w A3 (rd_T34 xs i).f3.length (rd_T34 xs i).f3 := by
  obtain ⟨ad, c, e, _, hK, hc0⟩ := Kd.C_get h z34 i h0 h1
  have hc : ∀ j u, c[j]? = some u → w.cell? (ad.add (i.toNat * 4 + j)) = some u := hc0
  obtain ⟨A3, c3, rfl, l3, g3⟩ := k34_open hK
  exact ⟨ad, A3, c3, e, hc 0 _ rfl, by rw [← add_field _ _ 1 (by omega)]; exact hc 1 _ rfl, by rw [← add_field _ _ 2 (by omega)]; exact hc 2 _ rfl, by rw [← add_field _ _ 3 (by omega)]; exact hc 3 _ rfl, l3, g3⟩
structure S71 where
  f0 : Int
  f1 : ByteArray
def z71 : S71 := ⟨(0 : Int), (⟨#[]⟩ : ByteArray)⟩
def k71 : Kd S71 := Kd.iso (Kd.pair (Kd.int .i64) Kd.string) (fun x : S71 => (x.f0, x.f1))
theorem k71_heap : Kd.Heap k71 := Kd.heap_iso _ (Kd.heap_pair (Kd.heap_int .i64) Kd.heap_string)
theorem k71_open {w : World} {x : S71} {cs : List Value} (h : k71.K w x cs) : cs = [.int .i64 x.f0, .string x.f1] := by
  obtain ⟨_, _, rfl, rfl, rfl⟩ := h
  exact rfl
theorem k71_mk (w : World) (x : S71)  : k71.K w x [.int .i64 x.f0, .string x.f1] := ⟨[.int .i64 x.f0], [.string x.f1], rfl, rfl, rfl⟩
theorem k71_mkM (w : World) (base : Nat) (ok : Nat → Prop) (x : S71)  : k71.M w base ok x [.int .i64 x.f0, .string x.f1] := ⟨[.int .i64 x.f0], [.string x.f1], rfl, rfl, rfl⟩
def rd_T71 (xs : List S71) (i : Int) : S71 := xs.getD i.toNat z71
theorem at_T71 {w : World} {A : Option Addr} {n : Nat} {xs : List S71} (h : Kd.C k71 w A n xs) (i : Int) (h0 : 0 ≤ i) (h1 : i < n) : ∃ ad , A = some ad ∧ w.cell? (ad.add (i.toNat * 2)) = some (.int .i64 (rd_T71 xs i).f0) ∧ w.cell? ⟨(ad.add (i.toNat * 2)).block, (ad.add (i.toNat * 2)).off + 1, none⟩ = some (.string (rd_T71 xs i).f1) := by
  obtain ⟨ad, c, e, _, hK, hc0⟩ := Kd.C_get h z71 i h0 h1
  have hc : ∀ j u, c[j]? = some u → w.cell? (ad.add (i.toNat * 2 + j)) = some u := hc0
  obtain rfl := k71_open hK
  exact ⟨ad, e, hc 0 _ rfl, by rw [← add_field _ _ 1 (by omega)]; exact hc 1 _ rfl⟩
def rd_L7 (xs : List (List S71)) (i : Int) : (List S71) := xs.getD i.toNat ([] : List S71)
theorem at_L7 {w : World} {A : Option Addr} {n : Nat} {xs : List (List S71)} (h : Kd.C (Kd.slice 71 k71) w A n xs) (i : Int) (h0 : 0 ≤ i) (h1 : i < n) : ∃ ad A0 c0, A = some ad ∧ w.cell? (ad.add i.toNat) = some (.slice A0 (rd_L7 xs i).length c0) ∧ (rd_L7 xs i).length ≤ c0 ∧ k71.C w A0 (rd_L7 xs i).length (rd_L7 xs i) := by
  obtain ⟨ad, c, e, _, hK, hc0⟩ := Kd.C_get h ([] : List S71) i h0 h1
  have hc : ∀ j u, c[j]? = some u → w.cell? (ad.add (i.toNat * 1 + j)) = some u := hc0
  obtain ⟨A0, c0, rfl, l0, g0⟩ := hK
  exact ⟨ad, A0, c0, e, by have hq := hc 0 _ rfl; rwa [Nat.mul_one, Nat.add_zero] at hq, l0, g0⟩
structure S46 where
  f0 : Int
  f1 : Int
def z46 : S46 := ⟨(0 : Int), (0 : Int)⟩
def k46 : Kd S46 := Kd.iso (Kd.pair (Kd.int .i64) (Kd.int .u64)) (fun x : S46 => (x.f0, x.f1))
theorem k46_heap : Kd.Heap k46 := Kd.heap_iso _ (Kd.heap_pair (Kd.heap_int .i64) (Kd.heap_int .u64))
theorem k46_open {w : World} {x : S46} {cs : List Value} (h : k46.K w x cs) : cs = [.int .i64 x.f0, .int .u64 x.f1] := by
  obtain ⟨_, _, rfl, rfl, rfl⟩ := h
  exact rfl
theorem k46_mk (w : World) (x : S46)  : k46.K w x [.int .i64 x.f0, .int .u64 x.f1] := ⟨[.int .i64 x.f0], [.int .u64 x.f1], rfl, rfl, rfl⟩
def rd_T46 (xs : List S46) (i : Int) : S46 := xs.getD i.toNat z46
theorem at_T46 {w : World} {A : Option Addr} {n : Nat} {xs : List S46} (h : Kd.C k46 w A n xs) (i : Int) (h0 : 0 ≤ i) (h1 : i < n) : ∃ ad , A = some ad ∧ w.cell? (ad.add (i.toNat * 2)) = some (.int .i64 (rd_T46 xs i).f0) ∧ w.cell? ⟨(ad.add (i.toNat * 2)).block, (ad.add (i.toNat * 2)).off + 1, none⟩ = some (.int .u64 (rd_T46 xs i).f1) := by
  obtain ⟨ad, c, e, _, hK, hc0⟩ := Kd.C_get h z46 i h0 h1
  have hc : ∀ j u, c[j]? = some u → w.cell? (ad.add (i.toNat * 2 + j)) = some u := hc0
  obtain rfl := k46_open hK
  exact ⟨ad, e, hc 0 _ rfl, by rw [← add_field _ _ 1 (by omega)]; exact hc 1 _ rfl⟩
structure S50 where
  f0 : (List S71)
  f1 : ByteArray
  f2 : S46
  f3 : Bool
def z50 : S50 := ⟨([] : List S71), (⟨#[]⟩ : ByteArray), z46, false⟩
def k50 : Kd S50 := Kd.iso (Kd.pair (Kd.slice 71 k71) (Kd.pair Kd.string (Kd.pair k46 Kd.bool))) (fun x : S50 => (x.f0, x.f1, x.f2, x.f3))
theorem k50_heap : Kd.Heap k50 := Kd.heap_iso _ (Kd.heap_pair (Kd.heap_slice 71 k71_heap) (Kd.heap_pair Kd.heap_string (Kd.heap_pair k46_heap Kd.heap_bool)))
theorem k50_open {w : World} {x : S50} {cs : List Value} (h : k50.K w x cs) : ∃ A0 c0, cs = [.slice A0 x.f0.length c0, .string x.f1, .int .i64 x.f2.f0, .int .u64 x.f2.f1, .bool x.f3] ∧ x.f0.length ≤ c0 ∧ k71.C w A0 x.f0.length x.f0 := by
  obtain ⟨_, _, rfl, ⟨A0, c0, rfl, l0, g0⟩, ⟨_, _, rfl, rfl, ⟨_, _, rfl, s2, rfl⟩⟩⟩ := h
  obtain rfl := k46_open s2
  exact ⟨A0, c0, rfl, l0, g0⟩
theorem k50_mk (w : World) (x : S50) {A0 : Option Addr} {c0 : Nat} (l0 : x.f0.length ≤ c0) (g0 : k71.C w A0 x.f0.length x.f0) : k50.K w x [.slice A0 x.f0.length c0, .string x.f1, .int .i64 x.f2.f0, .int .u64 x.f2.f1, .bool x.f3] := ⟨[.slice A0 x.f0.length c0], [.string x.f1, .int .i64 x.f2.f0, .int .u64 x.f2.f1, .bool x.f3], rfl, ⟨A0, c0, rfl, l0, g0⟩, ⟨[.string x.f1], [.int .i64 x.f2.f0, .int .u64 x.f2.f1, .bool x.f3], rfl, rfl, ⟨[.int .i64 x.f2.f0, .int .u64 x.f2.f1], [.bool x.f3], rfl, (k46_mk w x.f2 ), rfl⟩⟩⟩
theorem k50_openF {W : World} {ok : Nat → Prop} {x : S50} {cs : List Value} (h : Kd.FK k50 W ok x cs) : ∃ A0 c0, cs = [.slice A0 x.f0.length c0, .string x.f1, .int .i64 x.f2.f0, .int .u64 x.f2.f1, .bool x.f3] ∧ x.f0.length ≤ c0 ∧ Kd.F k71 W ok A0 x.f0.length x.f0 := by
  obtain ⟨A0, c0, rfl, l0, _⟩ := k50_open (Kd.FK_now h)
  exact ⟨A0, c0, rfl, l0, (fun W' hW => by obtain ⟨A0_, c0_, he, l0_, g0_⟩ := k50_open (h W' hW); injection (Option.some.inj (show some (Value.slice A0 x.f0.length c0) = some (Value.slice A0_ x.f0.length c0_) from congrArg (fun l => l[0]?) he)) with ha_ _ _; rw [ha_]; exact g0_)⟩
theorem k50_mkF (W : World) (ok : Nat → Prop) (x : S50) {A0 : Option Addr} {c0 : Nat} (l0 : x.f0.length ≤ c0) (g0 : Kd.F k71 W ok A0 x.f0.length x.f0) : Kd.FK k50 W ok x [.slice A0 x.f0.length c0, .string x.f1, .int .i64 x.f2.f0, .int .u64 x.f2.f1, .bool x.f3] := fun W2 hW => k50_mk W2 x l0 (g0 W2 hW)
def rd_T50 (xs : List S50) (i : Int) : S50 := xs.getD i.toNat z50
theorem at_T50 {w : World} {A : Option Addr} {n : Nat} {xs : List S50} (h : Kd.C k50 w A n xs) (i : Int) (h0 : 0 ≤ i) (h1 : i < n) : ∃ ad A0 c0, A = some ad ∧ w.cell? (ad.add (i.toNat * 5)) = some (.slice A0 (rd_T50 xs i).f0.length c0) ∧ w.cell? ⟨(ad.add (i.toNat * 5)).block, (ad.add (i.toNat * 5)).off + 1, none⟩ = some (.string (rd_T50 xs i).f1) ∧ w.cell? ⟨(ad.add (i.toNat * 5)).block, (ad.add (i.toNat * 5)).off + 2, none⟩ = some (.int .i64 (rd_T50 xs i).f2.f0) ∧ w.cell? ⟨(ad.add (i.toNat * 5)).block, (ad.add (i.toNat * 5)).off + 3, none⟩ = some (.int .u64 (rd_T50 xs i).f2.f1) ∧ w.cell? ⟨(ad.add (i.toNat * 5)).block, (ad.add (i.toNat * 5)).off + 4, none⟩ = some (.bool (rd_T50 xs i).f3) ∧ (rd_T50 xs i).f0.length ≤ c0 ∧ k71.C w A0 (rd_T50 xs i).f0.length (rd_T50 xs i).f0 := by
  obtain ⟨ad, c, e, _, hK, hc0⟩ := Kd.C_get h z50 i h0 h1
  have hc : ∀ j u, c[j]? = some u → w.cell? (ad.add (i.toNat * 5 + j)) = some u := hc0
  obtain ⟨A0, c0, rfl, l0, g0⟩ := k50_open hK
  exact ⟨ad, A0, c0, e, hc 0 _ rfl, by rw [← add_field _ _ 1 (by omega)]; exact hc 1 _ rfl, by rw [← add_field _ _ 2 (by omega)]; exact hc 2 _ rfl, by rw [← add_field _ _ 3 (by omega)]; exact hc 3 _ rfl, by rw [← add_field _ _ 4 (by omega)]; exact hc 4 _ rfl, l0, g0⟩
structure S24 where
  f0 : Int
  f1 : ByteArray
  f2 : ByteArray
  f3 : (List Int)
def z24 : S24 := ⟨(0 : Int), (⟨#[]⟩ : ByteArray), (⟨#[]⟩ : ByteArray), ([] : List Int)⟩
def k24 : Kd S24 := Kd.iso (Kd.pair (Kd.int .i64) (Kd.pair Kd.string (Kd.pair Kd.string (Kd.slice 3 (Kd.int .i64))))) (fun x : S24 => (x.f0, x.f1, x.f2, x.f3))
theorem k24_heap : Kd.Heap k24 := Kd.heap_iso _ (Kd.heap_pair (Kd.heap_int .i64) (Kd.heap_pair Kd.heap_string (Kd.heap_pair Kd.heap_string (Kd.heap_slice 3 (Kd.heap_int .i64)))))
theorem k24_open {w : World} {x : S24} {cs : List Value} (h : k24.K w x cs) : ∃ A3 c3, cs = [.int .i64 x.f0, .string x.f1, .string x.f2, .slice A3 x.f3.length c3] ∧ x.f3.length ≤ c3 ∧ (Kd.int .i64).C w A3 x.f3.length x.f3 := by
  obtain ⟨_, _, rfl, rfl, ⟨_, _, rfl, rfl, ⟨_, _, rfl, rfl, ⟨A3, c3, rfl, l3, g3⟩⟩⟩⟩ := h
  exact ⟨A3, c3, rfl, l3, g3⟩
theorem k24_mk (w : World) (x : S24) {A3 : Option Addr} {c3 : Nat} (l3 : x.f3.length ≤ c3) (g3 : (Kd.int .i64).C w A3 x.f3.length x.f3) : k24.K w x [.int .i64 x.f0, .string x.f1, .string x.f2, .slice A3 x.f3.length c3] := ⟨[.int .i64 x.f0], [.string x.f1, .string x.f2, .slice A3 x.f3.length c3], rfl, rfl, ⟨[.string x.f1], [.string x.f2, .slice A3 x.f3.length c3], rfl, rfl, ⟨[.string x.f2], [.slice A3 x.f3.length c3], rfl, rfl, ⟨A3, c3, rfl, l3, g3⟩⟩⟩⟩
def rd_T24 (xs : List S24) (i : Int) : S24 := xs.getD i.toNat z24
theorem at_T24 {w : World} {A : Option Addr} {n : Nat} {xs : List S24} (h : Kd.C k24 w A n xs) (i : Int) (h0 : 0 ≤ i) (h1 : i < n) : ∃ ad A3 c3, A = some ad ∧ w.cell? (ad.add (i.toNat * 4)) = some (.int .i64 (rd_T24 xs i).f0) ∧ w.cell? ⟨(ad.add (i.toNat * 4)).block, (ad.add (i.toNat * 4)).off + 1, none⟩ = some (.string (rd_T24 xs i).f1) ∧ w.cell? ⟨(ad.add (i.toNat * 4)).block, (ad.add (i.toNat * 4)).off + 2, none⟩ = some (.string (rd_T24 xs i).f2) ∧ w.cell? ⟨(ad.add (i.toNat * 4)).block, (ad.add (i.toNat * 4)).off + 3, none⟩ = some (.slice A3 (rd_T24 xs i).f3.length c3) ∧ (rd_T24 xs i).f3.length ≤ c3 ∧ (Kd.int .i64).C w A3 (rd_T24 xs i).f3.length (rd_T24 xs i).f3 := by
  obtain ⟨ad, c, e, _, hK, hc0⟩ := Kd.C_get h z24 i h0 h1
  have hc : ∀ j u, c[j]? = some u → w.cell? (ad.add (i.toNat * 4 + j)) = some u := hc0
  obtain ⟨A3, c3, rfl, l3, g3⟩ := k24_open hK
  exact ⟨ad, A3, c3, e, hc 0 _ rfl, by rw [← add_field _ _ 1 (by omega)]; exact hc 1 _ rfl, by rw [← add_field _ _ 2 (by omega)]; exact hc 2 _ rfl, by rw [← add_field _ _ 3 (by omega)]; exact hc 3 _ rfl, l3, g3⟩
end Go.Proofs.YtpbkdeelkpjccaaDoor.G

namespace Go.Proofs.YtpbkdeelkpjccaaDoor.G
open Go.RowKit Go.Proofs.YtpbkdeelkpjccaaDoorW.PrintWords
set_option linter.unusedVariables false
set_option linter.unusedSimpArgs false
theorem getD_lt {α : Type} (xs : List α) (z : α) {j : Nat} (hj : j < xs.length) : xs.getD j z = xs[j] := by
  rw [List.getD_eq_getElem?_getD, List.getElem?_eq_getElem hj]; rfl
def Tells (P : Program) (g : Nat) (lb : Array Value) (el : Nat → Value) (n : Nat) (p : Nat → Bool) (w : World) : Prop :=
  ∀ (j : Nat) (W : World), j < n → Below w.heap.size w W → Calls P g (#[el j] ++ lb) W fun e w' => e = .returned (.bool (p j)) ∧ Below W.heap.size W w'
def firstAt (p : Nat → Bool) (n : Nat) : Int := match (List.range n).find? p with | some j => (j : Int) | none => -1
theorem firstAt_hit {p : Nat → Bool} {n j : Nat} (hj : j < n) (hp : p j = true) (h : ∀ i, i < j → p i = false) : firstAt p n = (j : Int) := by
  have : (List.range n).find? p = some j := by
    rw [List.find?_eq_some_iff_append]
    refine ⟨hp, List.range j, (List.range' (j+1) (n - j - 1)), ?_, ?_⟩
    · rw [List.range_eq_range', List.range_eq_range']
      have : n = j + (1 + (n - j - 1)) := by omega
      conv => lhs; rw [this, ← List.range'_append_1, ← List.range'_append_1]
      simp [List.range']
    · intro a ha; simp [h a (List.mem_range.1 ha)]
  simp [firstAt, this]
theorem firstAt_miss {p : Nat → Bool} {n : Nat} (h : ∀ i, i < n → p i = false) : firstAt p n = -1 := by
  have : (List.range n).find? p = none := by rw [List.find?_eq_none]; intro a ha; simp [h a (List.mem_range.1 ha)]
  simp [firstAt, this]
theorem firstAt_any {p : Nat → Bool} {n : Nat} : decide (0 ≤ firstAt p n) = (List.range n).any p := by
  unfold firstAt
  cases h : (List.range n).find? p with
  | none =>
    rw [List.find?_eq_none] at h
    symm
    simp only [decide_eq_false_iff_not.2 (show ¬ (0:Int) ≤ -1 by omega)]
    rw [List.any_eq_false]; exact h
  | some j =>
    have h1 := List.find?_some h
    have h2 := List.mem_of_find?_eq_some h
    symm
    simp only [decide_eq_true_iff.2 (show (0:Int) ≤ (j : Int) by omega)]
    rw [List.any_eq_true]; exact ⟨j, h2, h1⟩
set_option maxHeartbeats 2000000 in
theorem IndexFunc_int (g : Nat) (lb : Array Value) (eg : ∀ args w, (callFunc g args).run Tryd.prog w = .ok (.enter g args) w) (A : Option Addr) (c : Nat) (xs : List Int) (p : Nat → Bool) (w : World)
    (hx : Kd.C (Kd.int .i64) w A xs.length xs) (hp : Tells Tryd.prog g lb (fun j => .int .i64 (rd xs j)) xs.length p w) :
    Calls Tryd.prog 63 #[.slice A xs.length c, .func (.func g) #[] lb] w fun e w' => e = .returned (.int .i64 (firstAt p xs.length)) ∧ Below w.heap.size w w' := by
  have HX := Aside0.mk hx
  have HP := Aside0.mk hp
  have hbig : xs.length ≤ 9223372036854775807 := hx.2.1
  clear hx hp
  go_enter Tryd.func63, Tryd.ntmps63
  go_wp2
  go_loopg [5, 8] xs.length (fun gg _ s8 wr => ∃ kk : Nat, kk ≤ xs.length ∧ xs.length - kk ≤ gg ∧ s8 = .int .i64 kk ∧ Aside0 (Below w.heap.size w wr) ∧ Aside0 (∀ j, j < kk → p j = false))
  case atStart => exact ⟨0, Nat.zero_le _, by omega, rfl, ⟨Below.refl _ w⟩, ⟨fun j hj => absurd hj (Nat.not_lt_zero _)⟩⟩
  case round =>
    obtain ⟨kk, hkk, hg, rfl, BW, HA⟩ := hrel
    by_cases hlt : kk < xs.length
    · have hltz : (kk : Int) < (xs.length : Int) := by omega
      obtain ⟨ad, e, hc⟩ := Kd.at_int HX.out (kk : Int) (by omega) (by omega)
      cases e
      rw [Int.toNat_natCast] at hc
      replace hc := (BW.out.cell (World.block_lt_of_cell? w _ hc)).trans hc
      have hcall := HP.out kk wr hlt BW.out
      dsimp only at hcall
      generalize rd xs (kk : Int) = y at hc hcall
      cases hq : p kk with
      | true =>
        rw [hq] at hcall
        go_wp2_with (go_at_fn g; refine hcall.mono ?_; rintro e w' ⟨rfl, hb'⟩)
        go_ret
        exact ⟨by rw [firstAt_hit hlt hq HA.out]; rfl, below_then BW.out BW.out.size hb'⟩
      | false =>
        rw [hq] at hcall
        have HQ := Aside0.mk hq
        clear hq
        go_wp2_with (go_at_fn g; refine hcall.mono ?_; rintro e w' ⟨rfl, hb'⟩)
        go_roundg (xs.length - (kk + 1))
        case measure => omega
        case rel =>
          refine ⟨kk + 1, by omega, by omega, by go_num, ⟨below_then BW.out BW.out.size hb'⟩, ⟨fun j hj => ?_⟩⟩
          by_cases e : j = kk
          · subst e; exact HQ.out
          · exact HA.out j (by omega)
    · have hltz : ¬ (kk : Int) < (xs.length : Int) := by omega
      have HK := Aside0.mk (show kk = xs.length by omega)
      go_wp2
      go_ret
      exact ⟨by rw [firstAt_miss (fun j hj => HA.out j (by have := HK.out; omega))]; rfl, BW.out⟩
set_option maxHeartbeats 1000000 in
theorem ContainsFunc_int (g : Nat) (lb : Array Value) (eg : ∀ args w, (callFunc g args).run Tryd.prog w = .ok (.enter g args) w) (A : Option Addr) (c : Nat) (xs : List Int) (p : Nat → Bool) (w : World)
    (hx : Kd.C (Kd.int .i64) w A xs.length xs) (hp : Tells Tryd.prog g lb (fun j => .int .i64 (rd xs j)) xs.length p w) :
    Calls Tryd.prog 34 #[.slice A xs.length c, .func (.func g) #[] lb] w fun e w' => e = .returned (.bool ((List.range xs.length).any p)) ∧ Below w.heap.size w w' := by
  rw [← firstAt_any]
  have hcall := IndexFunc_int g lb eg A c xs p w hx hp
  clear hx hp
  generalize firstAt p xs.length = r at hcall ⊢
  go_enter Tryd.func34, Tryd.ntmps34
  go_wp2_with (go_at_call 63; refine hcall.mono ?_; rintro e w' ⟨rfl, hb'⟩)
  go_ret
  exact ⟨rfl, hb'⟩
end Go.Proofs.YtpbkdeelkpjccaaDoor.G

namespace Go.Proofs.YtpbkdeelkpjccaaDoor.G
open Go.RowKit Go.Proofs.YtpbkdeelkpjccaaDoorW.PrintWords
set_option linter.unusedVariables false
set_option linter.unusedSimpArgs false
def wordV (x : Nat) : Value := .int .u64 (x : Int)
def setCells (ws : List Nat) : Array Value := (ws.map wordV).toArray
def setV (ws : List Nat) : Value := .agg (setCells ws)
structure OkW (ws : List Nat) : Prop where
  len : ws.length = 8
  lt : ∀ x ∈ ws, x < 18446744073709551616
def inW (ws : List Nat) (n : Int) : Bool := decide (0 ≤ n) && decide (n < 512) && (ws.getD (n / 64).toNat 0).testBit (n % 64).toNat
theorem OkW.getD {ws : List Nat} (h : OkW ws) (i : Nat) : ws.getD i 0 < 18446744073709551616 := by
  by_cases hi : i < ws.length
  · rw [getD_lt _ _ hi]; exact h.lt _ (List.getElem_mem _)
  · rw [List.getD_eq_getElem?_getD, List.getElem?_eq_none (by omega)]; simp
theorem setCells_get {ws : List Nat} {i : Nat} (h : i < ws.length) : (setCells ws)[i]? = some (wordV (ws.getD i 0)) := by
  rw [getD_lt _ _ h]; simp [setCells, h]
theorem bit_word (x k : Nat) (hx : x < 18446744073709551616) : (bits BinOp.and IntKind.u64 ((x : Int) / 2 ^ k) 1 == 1) = x.testBit k := by
  have e : (x : Int) / 2 ^ k = ((x / 2 ^ k : Nat) : Int) := by simp
  have hle : x / 2 ^ k ≤ x := Nat.div_le_self _ _
  rw [e, Nat.testBit_eq_decide_div_mod_eq]
  generalize x / 2 ^ k = y at hle ⊢
  rw [and_one_u64 _ (by omega) (by omega)]
  rw [Bool.eq_iff_iff]
  simp
  omega
set_option maxHeartbeats 2000000 in
set_option maxRecDepth 100000 in
theorem has_any (ws : List Nat) (hw : OkW ws) (n : Int) (w : World) :
    Calls Tryd.prog 61 #[setV ws, .int .i64 n] w fun e w' => e = .returned (.bool (inW ws n)) ∧ Below w.heap.size w w' := by
  unfold inW setV
  have hu67 := Tryd.underlying67
  by_cases h0 : 0 ≤ n
  · rw [decide_eq_true h0]
    have d0 : decide (0 ≤ n) = true := decide_eq_true h0
    by_cases h1 : n < 512
    · rw [decide_eq_true h1]
      have d1 : decide (n < 512) = true := decide_eq_true h1
      have hbl : (w.alloc (.cells (setCells ws) 67)).heap[w.heap.size]? = some (.cells (setCells ws) 67 (0, 0)) := heap_alloc_new _ _
      have hi : (n / 64).toNat < 8 := by omega
      have hq : (w.alloc (.cells (setCells ws) 67)).cell? ⟨w.heap.size, (n / 64).toNat, none⟩ = some (.int .u64 (ws.getD (n / 64).toNat 0 : Nat)) := (blk_cell hbl _).trans (setCells_get (by rw [hw.len]; exact hi))
      have HB := Aside0.mk (bit_word (ws.getD (n / 64).toNat 0) (n % 64).toNat (hw.getD _))
      clear hbl hw
      generalize setCells ws = cs at *
      generalize ws.getD (n / 64).toNat 0 = x at *
      go_enter Tryd.func61, Tryd.ntmps61
      go_wp2
      go_ret
      exact ⟨by rw [← HB.out]; rfl, below_alloc (Below.refl _ _) _⟩
    · rw [decide_eq_false h1]
      have d1 : decide (n < 512) = false := decide_eq_false h1
      clear h0 h1 hw
      generalize setCells ws = cs at *
      go_enter Tryd.func61, Tryd.ntmps61
      go_wp2
      go_ret
      exact ⟨rfl, below_alloc (Below.refl _ _) _⟩
  · rw [decide_eq_false h0]
    have d0 : decide (0 ≤ n) = false := decide_eq_false h0
    clear h0 hw
    generalize setCells ws = cs at *
    go_enter Tryd.func61, Tryd.ntmps61
    go_wp2
    go_ret
    exact ⟨rfl, below_alloc (Below.refl _ _) _⟩
def putW (ws : List Nat) (n : Int) : List Nat := if 0 ≤ n ∧ n < 512 then ws.set (n / 64).toNat (ws.getD (n / 64).toNat 0 ||| 2 ^ (n % 64).toNat) else ws
theorem or_word (x k : Nat) (hx : x < 18446744073709551616) (hk : k < 64) : x ||| 2 ^ k < 18446744073709551616 := by
  have h2 : 2 ^ k < 2 ^ 64 := Nat.pow_lt_pow_right (by decide) hk
  exact Nat.or_lt_two_pow (n := 64) hx h2
theorem or_bits (x k : Nat) (hx : x < 18446744073709551616) (hk : k < 64) : bits BinOp.or IntKind.u64 (x : Int) (IntKind.u64.wrap (2 ^ k)) = ((x ||| 2 ^ k : Nat) : Int) := by
  have h2 : 2 ^ k < 2 ^ 64 := Nat.pow_lt_pow_right (by decide) hk
  have e : ((2 : Int) ^ k) = ((2 ^ k : Nat) : Int) := by simp
  have e2 : IntKind.u64.wrap ((2 ^ k : Nat) : Int) = ((2 ^ k : Nat) : Int) := by
    generalize 2 ^ k = y at h2
    rw [IntKind.wrap_u64]; omega
  rw [e, e2]
  exact bits_or_u64_nat x (2 ^ k) hx h2
theorem grown_of_set (w : World) (b i : Nat) (v : Value) : w.grownBy (w.setCell ⟨b, i, none⟩ v).drew (some b) :=
  ⟨rfl, rfl, rfl, by simp [World.setCell], fun k _ hk => Below.heap_setCell w ⟨b, i, none⟩ v k (fun e => hk (congrArg some e))⟩
theorem setCells_set (ws : List Nat) (i y : Nat) : (setCells ws).setIfInBounds i (wordV y) = setCells (ws.set i y) := by
  simp [setCells]
theorem putW_ok {ws : List Nat} (h : OkW ws) (n : Int) : OkW (putW ws n) := by
  unfold putW
  split
  · refine ⟨by simp [h.len], fun x hx => ?_⟩
    rcases List.mem_or_eq_of_mem_set hx with hx | rfl
    · exact h.lt x hx
    · exact or_word _ _ (h.getD _) (by omega)
  · exact h
set_option maxHeartbeats 2000000 in
set_option maxRecDepth 100000 in
theorem put_any (ws : List Nat) (hw : OkW ws) (n : Int) (B : Nat) (w : World) (hB : w.heap[B]? = some (.cells (setCells ws) 67 (0, 0))) :
    Calls Tryd.prog 64 #[.pointer (some ⟨B, 0, none⟩), .int .i64 n] w fun e w' => e = .returned (.tuple #[]) ∧ w'.heap[B]? = some (.cells (setCells (putW ws n)) 67 (0, 0)) ∧ w.grownBy w' (some B) := by
  unfold putW
  have hu67 := Tryd.underlying67
  by_cases h0 : 0 ≤ n
  · have d0 : decide (0 ≤ n) = true := decide_eq_true h0
    by_cases h1 : n < 512
    · rw [if_pos ⟨h0, h1⟩]
      have d1 : decide (n < 512) = true := decide_eq_true h1
      have hi : (n / 64).toNat < 8 := by omega
      have hq : w.cell? ⟨B, (n / 64).toNat, none⟩ = some (.int .u64 (ws.getD (n / 64).toNat 0 : Nat)) := (blk_cell hB _).trans (setCells_get (by rw [hw.len]; exact hi))
      have hf : w.frozen? ⟨B, (n / 64).toNat, none⟩ = false := blk_frozen hB _
      have HB := Aside0.mk hB
      have HW := Aside0.mk hw
      clear hB hw
      go_enter Tryd.func64, Tryd.ntmps64
      go_wp2
      go_region
      have hb := or_bits (ws.getD (n / 64).toNat 0) (n % 64).toNat (HW.out.getD _) (by omega)
      go_end0
      refine ⟨rfl, ?_, ?_⟩
      · have h := blk_set HB.out (n / 64).toNat (wordV (ws.getD (n / 64).toNat 0 ||| 2 ^ (n % 64).toNat))
        rw [setCells_set] at h
        rw [← h, wordV, ← hb]
        simp
        rfl
      · exact grown_of_set _ _ _ _
    · rw [if_neg (by omega)]
      have d1 : decide (n < 512) = false := decide_eq_false h1
      have HB := Aside0.mk hB
      clear h0 h1 hw hB
      go_enter Tryd.func64, Tryd.ntmps64
      go_wp2
      go_end0
      exact ⟨rfl, HB.out, grown_of_below (Below.refl _ _) _⟩
  · rw [if_neg (by omega)]
    have d0 : decide (0 ≤ n) = false := decide_eq_false h0
    have HB := Aside0.mk hB
    clear h0 hw hB
    go_enter Tryd.func64, Tryd.ntmps64
    go_wp2
    go_end0
    exact ⟨rfl, HB.out, grown_of_below (Below.refl _ _) _⟩
end Go.Proofs.YtpbkdeelkpjccaaDoor.G

-- Laid by xprint.py (this work's own driver of the kit's printer).
namespace Go.Proofs.YtpbkdeelkpjccaaDoor.G
open Go.RowKit Go.Proofs.YtpbkdeelkpjccaaDoorW.PrintWords Go.Proofs.YtpbkdeelkpjccaaDoorW.PrintLast Go.Proofs.YtpbkdeelkpjccaaDoorW.PrintMore
attribute [local go_sem] max2_int min2_int max_two min_two max_three min_three max_four min_four   -- for this text's walks alone
set_option linter.unusedVariables false
set_option linter.unusedSimpArgs false
def nfa_Table_begin.f (l0_0 : List (List (S71))) (l0_1 : List Int) (a0_2 : Int) (a1 : Int) : Option (Int) := if a1 ≥ (l0_1.length : Int) then (some 512) else (if 0 ≤ a1 then (if a1 < (l0_1.length : Int) then (some (rd l0_1 a1)) else (none)) else (none))
set_option maxHeartbeats 8000000 in
set_option maxRecDepth 100000 in
theorem nfa_Table_begin.calls (A0_0 : Option Addr) (c0_0 : Nat) (l0_0 : List (List (S71))) (A0_1 : Option Addr) (c0_1 : Nat) (l0_1 : List Int) (a0_2 : Int) (a1 : Int) (r : Int) (w : World) (hr0_0 : Kd.C (Kd.slice 71 k71) w A0_0 l0_0.length l0_0) (hc0_0 : l0_0.length ≤ c0_0) (hr0_1 : Kd.C (Kd.int .i64) w A0_1 l0_1.length l0_1) (hc0_1 : l0_1.length ≤ c0_1) (h : nfa_Table_begin.f l0_0 l0_1 a0_2 a1 = some r) :
    Calls Tryd.prog 62 #[.agg #[.slice A0_0 l0_0.length c0_0, .slice A0_1 l0_1.length c0_1, .int .i64 a0_2], .int .i64 a1] w fun e w' => e = .returned (.int .i64 r) ∧ Below w.heap.size w w' := by
  have hu80 := Tryd.underlying80
  have HR0_0 := Aside0.mk hr0_0
  have HC0_0 := Aside0.mk hc0_0
  clear hr0_0 hc0_0
  have HR0_1 := Aside0.mk hr0_1
  have HC0_1 := Aside0.mk hc0_1
  clear hr0_1 hc0_1
  have HB := Aside0.mk (Below.refl w.heap.size w)
  have H : (if a1 ≥ (l0_1.length : Int) then (some 512) else (if 0 ≤ a1 then (if a1 < (l0_1.length : Int) then (some (rd l0_1 a1)) else (none)) else (none))) = some r := h
  clear h
  by_cases c3 : a1 ≥ (l0_1.length : Int)
  · rw [if_pos c3] at H
    have c3b0 : decide ((l0_1.length : Int) ≤ a1) = true := decide_eq_true c3
    clear c3
    obtain rfl := Option.some.inj H
    go_enter Tryd.func62, Tryd.ntmps62
    go_wp2_with (first | ((with_reducible refine gate_dst (N := 2) rfl ?_); refine box_event ?hg (N := 2) ?hd (cs := #[.slice A0_0 l0_0.length c0_0, .slice A0_1 l0_1.length c0_1, .int .i64 a0_2]) (t := 80) ?hr ?_; (case hd => rfl); (case hg => rfl); (case hr => first | (go_simp; done) | (go_simp; rfl)); intro gb1 hg w4 hbox hb; have n0_ := Aside0.mk (below_step (by repeat (first | (with_reducible first | exact HB.out | apply below_alloc | apply pw_below_drewN | apply below_drew1) | exact HB.out)) hb); have n1_ := Aside0.mk (hbox); have n2_ := Aside0.mk ((by rw [hg]; exact (below_size (by repeat (first | (with_reducible first | exact HB.out | apply below_alloc | apply pw_below_drewN | apply below_drew1) | exact HB.out))) : w.heap.size ≤ gb1)); have n3_ := Aside0.mk ((by rw [hg]; exact (below_size (by repeat (first | (with_reducible first | exact HB.out | apply below_alloc | apply pw_below_drewN | apply below_drew1) | exact HB.out))) : w.heap.size ≤ gb1)); clear HB; have HB := n0_; have BK1 := n1_; have GW1 := n2_; have GE1 := n3_; clear n0_ n1_ n2_ n3_; clear hb hbox hg; have hcz5_0 : w4.cell? ⟨gb1, 0, none⟩ = some (.slice A0_0 l0_0.length c0_0) := (blk_cell BK1.out 0).trans rfl; have hcz5_1 : w4.cell? ⟨gb1, 1, none⟩ = some (.slice A0_1 l0_1.length c0_1) := (blk_cell BK1.out 1).trans rfl; have hcz5_2 : w4.cell? ⟨gb1, 2, none⟩ = some (.int .i64 a0_2) := (blk_cell BK1.out 2).trans rfl; have hfz5_0 := blk_frozen BK1.out 0; have hfz5_1 := blk_frozen BK1.out 1; have hfz5_2 := blk_frozen BK1.out 2))
    go_ret
    exact ⟨by first | rfl | (simp [errW_none, errW_some] <;> rfl) | (simp [*, errW_none, errW_some] <;> rfl), by repeat (first | (with_reducible first | exact HB.out | apply below_alloc | apply pw_below_drewN | apply below_drew1 | refine below_set ?_ GE1.out) | exact HB.out)⟩
  · rw [if_neg c3] at H
    have c3b0 : decide ((l0_1.length : Int) ≤ a1) = false := decide_eq_false c3
    clear c3
    by_cases c6 : 0 ≤ a1
    · rw [if_pos c6] at H
      have c6b0 : decide (0 ≤ a1) = true := decide_eq_true c6
      clear c6
      by_cases c7 : a1 < (l0_1.length : Int)
      · rw [if_pos c7] at H
        have c7b0 : decide (a1 < (l0_1.length : Int)) = true := decide_eq_true c7
        clear c7
        obtain rfl := Option.some.inj H
        go_enter Tryd.func62, Tryd.ntmps62
        go_wp2_with (first | ((with_reducible refine gate_dst (N := 2) rfl ?_); refine box_event ?hg (N := 2) ?hd (cs := #[.slice A0_0 l0_0.length c0_0, .slice A0_1 l0_1.length c0_1, .int .i64 a0_2]) (t := 80) ?hr ?_; (case hd => rfl); (case hg => rfl); (case hr => first | (go_simp; done) | (go_simp; rfl)); intro gb1 hg w8 hbox hb; have n0_ := Aside0.mk (below_step (by repeat (first | (with_reducible first | exact HB.out | apply below_alloc | apply pw_below_drewN | apply below_drew1) | exact HB.out)) hb); have n1_ := Aside0.mk (hbox); have n2_ := Aside0.mk ((by rw [hg]; exact (below_size (by repeat (first | (with_reducible first | exact HB.out | apply below_alloc | apply pw_below_drewN | apply below_drew1) | exact HB.out))) : w.heap.size ≤ gb1)); have n3_ := Aside0.mk ((by rw [hg]; exact (below_size (by repeat (first | (with_reducible first | exact HB.out | apply below_alloc | apply pw_below_drewN | apply below_drew1) | exact HB.out))) : w.heap.size ≤ gb1)); clear HB; have HB := n0_; have BK1 := n1_; have GW1 := n2_; have GE1 := n3_; clear n0_ n1_ n2_ n3_; clear hb hbox hg; have hcz9_0 : w8.cell? ⟨gb1, 0, none⟩ = some (.slice A0_0 l0_0.length c0_0) := (blk_cell BK1.out 0).trans rfl; have hcz9_1 : w8.cell? ⟨gb1, 1, none⟩ = some (.slice A0_1 l0_1.length c0_1) := (blk_cell BK1.out 1).trans rfl; have hcz9_2 : w8.cell? ⟨gb1, 2, none⟩ = some (.int .i64 a0_2) := (blk_cell BK1.out 2).trans rfl; have hfz9_0 := blk_frozen BK1.out 0; have hfz9_1 := blk_frozen BK1.out 1; have hfz9_2 := blk_frozen BK1.out 2; have p2 : 0 ≤ (a1 : Int) := of_decide_eq_true (by first | (with_reducible assumption) | assumption); have q2 : a1 < (l0_1.length : Int) := of_decide_eq_true (by first | (with_reducible assumption) | assumption); obtain ⟨ad2, e2, hx2_0⟩ := Kd.at_int HR0_1.out a1 p2 q2; cases e2; replace hx2_0 := (HB.out.cell (World.block_lt_of_cell? w _ hx2_0)).trans hx2_0; replace p2 := eq_true p2; replace q2 := eq_true q2))
        go_ret
        exact ⟨by first | rfl | (simp [errW_none, errW_some] <;> rfl) | (simp [*, errW_none, errW_some] <;> rfl), by repeat (first | (with_reducible first | exact HB.out | apply below_alloc | apply pw_below_drewN | apply below_drew1 | refine below_set ?_ GE1.out) | exact HB.out)⟩
      · rw [if_neg c7] at H
        exact absurd H (by simp)
    · rw [if_neg c6] at H
      exact absurd H (by simp)
end Go.Proofs.YtpbkdeelkpjccaaDoor.G

namespace Go.Proofs.YtpbkdeelkpjccaaDoor.G
open Go.RowKit Go.Proofs.YtpbkdeelkpjccaaDoorW.PrintWords
set_option linter.unusedVariables false
set_option linter.unusedSimpArgs false
attribute [local go_sem] Oper.semAt_some
def rowParts (b : Int) (p : List S71) : List (Int × S71) := (List.range p.length).map fun (k : Nat) => (b + (k : Int), p.getD k z71)
def allParts : List (List S71) → List Int → List (Int × S71)
  | p :: ps, b :: bs => rowParts b p ++ allParts ps bs
  | _, _ => []
theorem rowParts_take (b : Int) (p : List S71) (k : Nat) (h : k < p.length) : rowParts b (p.take (k + 1)) = rowParts b (p.take k) ++ [(b + (k : Int), p.getD k z71)] := by
  unfold rowParts
  rw [List.length_take, List.length_take, Nat.min_eq_left (by omega), Nat.min_eq_left (by omega), List.range_succ, List.map_append]
  congr 1
  · apply List.map_congr_left
    intro j hj
    have hj := List.mem_range.1 hj
    simp [List.getD_eq_getElem?_getD, List.getElem?_take, show j < k + 1 by omega, hj]
  · simp [List.getD_eq_getElem?_getD, List.getElem?_take]
theorem allParts_take : ∀ (ps : List (List S71)) (bs : List Int) (i : Nat), ps.length = bs.length → i < ps.length → allParts (ps.take (i + 1)) (bs.take (i + 1)) = allParts (ps.take i) (bs.take i) ++ rowParts (bs.getD i 0) (ps.getD i [])
  | [], bs, i, _, h => absurd h (Nat.not_lt_zero _)
  | p :: ps, [], i, h, _ => by simp at h
  | p :: ps, b :: bs, 0, _, _ => by simp [allParts]
  | p :: ps, b :: bs, i + 1, h, hi => by
    have := allParts_take ps bs i (by simpa using h) (by simpa using hi)
    simp only [List.take_succ_cons, allParts, this, List.append_assoc, List.getD_cons_succ]
theorem rowParts_len (b : Int) (p : List S71) : (rowParts b p).length = p.length := by simp [rowParts]
theorem rowParts_prefix (b : Int) (p : List S71) (k : Nat) : rowParts b (p.take k) <+: rowParts b p := by
  induction k with
  | zero => simp [rowParts]
  | succ k ih =>
    by_cases h : k < p.length
    · refine ⟨(rowParts b p).drop (k + 1), ?_⟩
      have e : rowParts b (p.take (k + 1)) = (rowParts b p).take (k + 1) := by
        unfold rowParts
        rw [List.length_take, ← List.map_take, List.take_range]
        apply List.map_congr_left
        intro j hj
        have hj := List.mem_range.1 hj
        simp [List.getD_eq_getElem?_getD, List.getElem?_take, show j < k + 1 by omega]
      rw [e, List.take_append_drop]
    · rw [List.take_of_length_le (by omega)]
      exact List.prefix_refl _
theorem allParts_prefix : ∀ (ps : List (List S71)) (bs : List Int) (i : Nat), allParts (ps.take i) (bs.take i) <+: allParts ps bs
  | [], bs, i => by simp [allParts]
  | p :: ps, [], i => by simp [allParts]
  | p :: ps, b :: bs, 0 => by simp [allParts]
  | p :: ps, b :: bs, i + 1 => by
    simp only [List.take_succ_cons, allParts]
    exact (List.prefix_append_right_inj _).2 (allParts_prefix ps bs i)
theorem allParts_at (ps : List (List S71)) (bs : List Int) (i : Nat) (h : ps.length = bs.length) (hi : i < ps.length) (k : Nat) : allParts (ps.take i) (bs.take i) ++ rowParts (bs.getD i 0) ((ps.getD i []).take k) <+: allParts ps bs := by
  refine List.IsPrefix.trans ?_ (allParts_prefix ps bs (i + 1))
  rw [allParts_take ps bs i h hi]
  exact (List.prefix_append_right_inj _).2 (rowParts_prefix _ _ _)
theorem allParts_lt (ps : List (List S71)) (bs : List Int) (i : Nat) (h : ps.length = bs.length) (hi : i < ps.length) (k : Nat) (hk : k < (ps.getD i []).length) : (allParts (ps.take i) (bs.take i) ++ rowParts (bs.getD i 0) ((ps.getD i []).take k)).length < (allParts ps bs).length := by
  have h1 := (allParts_at ps bs i h hi (k + 1)).length_le
  simp only [List.length_append, rowParts_len, List.length_take] at h1 ⊢
  omega
theorem blk_below5 {w w' : World} {i : Nat} {o : Obj} (hb : Below w.heap.size w w') (h : w.heap[i]? = some o) : w'.heap[i]? = some o := (hb.block i (Array.getElem?_eq_some_iff.1 h).1).trans h
structure TabAt (ps : List (List S71)) (bs : List Int) (A0 : Option Addr) (c0 : Nat) (A1 : Option Addr) (c1 : Nat) (w : World) : Prop where
  h0 : Kd.C (Kd.slice 71 k71) w A0 ps.length ps
  l0 : ps.length ≤ c0
  h1 : Kd.C (Kd.int .i64) w A1 bs.length bs
  l1 : bs.length ≤ c1
  len : ps.length = bs.length
  small : ∀ b ∈ bs, 0 ≤ b ∧ b ≤ 512
  short : ∀ p ∈ ps, p.length ≤ 20
  few : ps.length ≤ 1000
theorem TabAt.below {ps : List (List S71)} {bs : List Int} {A0 : Option Addr} {c0 : Nat} {A1 : Option Addr} {c1 : Nat} {w w' : World} (h : TabAt ps bs A0 c0 A1 c1 w) (hb : Below w.heap.size w w') : TabAt ps bs A0 c0 A1 c1 w' :=
  ⟨Kd.C_below h.h0 hb, h.l0, Kd.C_below h.h1 hb, h.l1, h.len, h.small, h.short, h.few⟩
abbrev tabArg (ps : List (List S71)) (bs : List Int) (A0 : Option Addr) (c0 : Nat) (A1 : Option Addr) (c1 : Nat) (m : Int) : Value := .agg #[.slice A0 ps.length c0, .slice A1 bs.length c1, .int .i64 m]
def partV (x : Int × S71) : Array Value := #[.int .i64 x.1, .agg #[.int .i64 x.2.f0, .string x.2.f1]]
theorem begin_calls (ps : List (List S71)) (bs : List Int) (A0 : Option Addr) (c0 : Nat) (A1 : Option Addr) (c1 : Nat) (m : Int) (i : Nat) (w : World) (H : TabAt ps bs A0 c0 A1 c1 w) (hi : i < ps.length) :
    Calls Tryd.prog 62 #[tabArg ps bs A0 c0 A1 c1 m, .int .i64 (i : Int)] w fun e w' => e = .returned (.int .i64 (bs.getD i 0)) ∧ Below w.heap.size w w' := by
  refine nfa_Table_begin.calls A0 c0 ps A1 c1 bs m (i : Int) _ w H.h0 H.l0 H.h1 H.l1 ?_
  have := H.len
  unfold nfa_Table_begin.f
  rw [if_neg (by omega), if_pos (by omega), if_pos (by omega)]
  unfold rd
  rw [Int.toNat_natCast]
set_option maxHeartbeats 4000000 in
set_option maxRecDepth 100000 in
theorem parts1_in (n : Nat) (hn : 1 ≤ n) (ps : List (List S71)) (bs : List Int) (A0 : Option Addr) (c0 : Nat) (A1 : Option Addr) (c1 : Nat) (m : Int) (l Bn : Nat) (w0 : World) (hT : TabAt ps bs A0 c0 A1 c1 w0) (J Jx : List (Int × S71) → World → Prop) (W : World) (hJ : AbidesFrom W.heap.size J)
    (hY : ∀ pre x W1, J pre W1 → pre.length < (allParts ps bs).length → YieldAt Fence.wide (n - 1) Tryd.prog l (partV x) W1 fun e W' => (e = .returned (.bool true) ∧ J (pre ++ [x]) W' ∧ Below w0.heap.size W1 W' ∧ W'.heap[Bn]? = W1.heap[Bn]?) ∨ (e = .returned (.bool false) ∧ Jx (pre ++ [x]) W'))
    (hW : Below w0.heap.size w0 W) (hB : W.heap[Bn]? = some (.cells #[.slice A0 ps.length c0, .slice A1 bs.length c1, .int .i64 m] 80 (0, 0))) (h0 : J [] W) :
    CallsIn Fence.wide n Tryd.prog 76 #[.func (.yield l) #[] #[], .pointer (some ⟨Bn, 0, none⟩)] W fun e W' => (∃ v, e = .returned v) ∧ ((∃ ys, ys = allParts ps bs ∧ J ys W') ∨ (∃ pre, pre <+: allParts ps bs ∧ Jx pre W')) := by
  have hb0 : W.cell? ⟨Bn, 0, none⟩ = some (.slice A0 ps.length c0) := (blk_cell hB 0).trans rfl
  have hmax := hT.h0.2.1
  refine callsIn_of_wp Tryd.func76 rfl trivial ?_ rfl
  simp only [Tryd.ntmps76, List.size_toArray, List.length_cons, List.length_nil, Nat.reduceAdd, Nat.reduceSub, Array.replicate_succ, Array.replicate_zero, List.push_toArray, List.append_toArray, List.nil_append, List.cons_append]
  have HHB := Aside0.mk hB
  have HHT := Aside0.mk hT
  have HHY := Aside0.mk hY
  have HHJ := Aside0.mk hJ
  have HHW := Aside0.mk hW
  have H0 := Aside0.mk h0
  have hu80 := Tryd.underlying80
  have hu71 := Tryd.underlying71
  clear hB hT hY hJ h0 hW
  gi_wp2
  gi_loopg [10] ps.length (fun gg s10 wr => ∃ i : Nat, i ≤ ps.length ∧ ps.length - i ≤ gg ∧ s10 = .int .i64 i ∧ Aside0 (Below w0.heap.size w0 wr) ∧ Aside0 (W.heap.size ≤ wr.heap.size) ∧ Aside0 (wr.heap[Bn]? = some (.cells #[.slice A0 ps.length c0, .slice A1 bs.length c1, .int .i64 m] 80 (0, 0))) ∧ Aside0 (J (allParts (ps.take i) (bs.take i)) wr))
  case atStart => exact ⟨0, Nat.zero_le _, by omega, rfl, ⟨HHW.out⟩, ⟨Nat.le_refl _⟩, ⟨HHB.out⟩, ⟨by simpa [allParts] using H0.out⟩⟩
  case round =>
    obtain ⟨i, hi, hg, rfl, BW, SW, BB, HJ⟩ := hrel
    by_cases hil : i < ps.length
    · have hiz : (i : Int) < (ps.length : Int) := by omega
      obtain ⟨ad, A4, c4, e, q0, l4, g4⟩ := at_L7 HHT.out.h0 (i : Int) (by omega) hiz
      cases e
      have HAP := Aside0.mk (allParts_take ps bs i HHT.out.len hil)
      have hsh : (ps.getD i []).length ≤ 20 := HHT.out.short _ (by rw [getD_lt _ _ hil]; exact List.getElem_mem _)
      have hsm : 0 ≤ bs.getD i 0 ∧ bs.getD i 0 ≤ 512 := HHT.out.small _ (by have := HHT.out.len; rw [getD_lt _ _ (by omega)]; exact List.getElem_mem _)
      have HLE : Aside0 (∀ k, k < (ps.getD i []).length → (allParts (ps.take i) (bs.take i) ++ rowParts (bs.getD i 0) ((ps.getD i []).take k)).length < (allParts ps bs).length) := ⟨fun k hk => allParts_lt ps bs i HHT.out.len hil k hk⟩
      have HPX : Aside0 (∀ k, allParts (ps.take i) (bs.take i) ++ rowParts (bs.getD i 0) ((ps.getD i []).take k) <+: allParts ps bs) := ⟨fun k => allParts_at ps bs i HHT.out.len hil k⟩
      have HG4 := Aside0.mk g4
      have HBE : Aside0 (∀ W', TabAt ps bs (some ad) c0 A1 c1 W' → _) := ⟨fun W' hb => begin_calls ps bs (some ad) c0 A1 c1 m i W' hb hil⟩
      rw [show rd_L7 ps (i : Int) = ps.getD i [] from rfl] at q0 l4 HG4
      generalize hp : ps.getD i [] = p at *
      generalize bs.getD i 0 = b at *
      replace q0 := (BW.out.cell (World.block_lt_of_cell? w0 _ q0)).trans q0
      rw [Int.toNat_natCast] at q0
      have hP : p.length ≤ 9223372036854775807 := by omega
      clear g4
      gi_wp2
      gi_loopg [17] p.length (fun ig s17 wi => ∃ k : Nat, k ≤ p.length ∧ p.length - k ≤ ig ∧ s17 = .int .i64 k ∧ Aside0 (Below w0.heap.size w0 wi) ∧ Aside0 (W.heap.size ≤ wi.heap.size) ∧ Aside0 (wi.heap[Bn]? = some (.cells #[.slice (some ad) ps.length c0, .slice A1 bs.length c1, .int .i64 m] 80 (0, 0))) ∧ Aside0 (J (allParts (ps.take i) (bs.take i) ++ rowParts b (p.take k)) wi))
      case atStart => exact ⟨0, Nat.zero_le _, by omega, rfl, ⟨BW.out⟩, ⟨SW.out⟩, ⟨BB.out⟩, ⟨by simpa [rowParts] using HJ.out⟩⟩
      case round =>
        obtain ⟨k, hk, hkg, rfl, BI, SI, BBI, HJI⟩ := hrel
        by_cases hkl : k < p.length
        · have hkz : (k : Int) < (p.length : Int) := by omega
          obtain ⟨ad2, e2, x0, x1⟩ := at_T71 HG4.out (k : Int) (by omega) hkz
          cases e2
          have HRT := Aside0.mk (rowParts_take b p k hkl)
          rw [show rd_T71 p (k : Int) = p.getD k z71 from rfl] at x0 x1
          generalize p.getD k z71 = x at HRT x0 x1
          replace x0 := (BI.out.cell (World.block_lt_of_cell? w0 _ x0)).trans x0
          replace x1 := (BI.out.cell (World.block_lt_of_cell? w0 _ x1)).trans x1
          rw [Int.toNat_natCast] at x0 x1
          have hb3 := blk_alloc BBI.out (.cells #[.int .i64 x.f0, .string x.f1] 71)
          have t0 := (blk_cell hb3 0).trans rfl
          have t1 := (blk_cell hb3 1).trans rfl
          have t2 := (blk_cell hb3 2).trans rfl
          have hw6 : wrap64 (b + (k : Int)) = b + (k : Int) := IntWalk.wrap64_in _ (by omega)
          have hw7 : IntKind.i64.wrap (b + (k : Int)) = b + (k : Int) := (IntWalk.i64_left _).trans hw6
          have HJA : Aside0 (J (allParts (ps.take i) (bs.take i) ++ rowParts b (p.take k)) (wr.alloc (.cells #[.int .i64 x.f0, .string x.f1] 71)).drew) := ⟨HHJ.out _ wr _ none HJI.out (grown_of_below (below_drew (below_alloc (Below.refl _ _) _)) _) (fun r e => by cases e)⟩
          have HBA : Aside0 (Below w0.heap.size w0 (wr.alloc (.cells #[.int .i64 x.f0, .string x.f1] 71)).drew) := ⟨below_drew (below_alloc BI.out _)⟩
          have HBN : Aside0 ((wr.alloc (.cells #[.int .i64 x.f0, .string x.f1] 71)).drew.heap[Bn]? = some (.cells #[.slice (some ad) ps.length c0, .slice A1 bs.length c1, .int .i64 m] 80 (0, 0))) := ⟨hb3⟩
          have HX0 : Aside0 ((wr.alloc (.cells #[.int .i64 x.f0, .string x.f1] 71)).drew.heap[wr.heap.size]? = some (.cells #[.int .i64 x.f0, .string x.f1] 71 (0, 0))) := ⟨heap_alloc_new _ _⟩
          have HSA : Aside0 (W.heap.size ≤ wr.heap.size) := ⟨SI.out⟩
          clear hb3
          gi_wp2
          gi_region_with (first | (refine hR2.mono ?_; clear hR2; rintro e w6 ⟨q, rfl, hq6⟩) | (refine ⟨trivial, ?_⟩; gi_at_call 62; refine (callsIn_wide.2 (HBE.out _ ?hb)).mono ?_; (case hb => exact HHT.out.below HBA.out); rintro e w5 ⟨rfl, hb5⟩; have x5 := blk_below5 hb5 HX0.out; have y0 : w5.cell? ⟨wr.heap.size, 0, none⟩ = some (.int .i64 x.f0) := (blk_cell x5 0).trans rfl; have y1 : w5.cell? ⟨wr.heap.size, 1, none⟩ = some (.string x.f1) := (blk_cell x5 1).trans rfl; have HB5 := Aside0.mk hb5; clear x5 hb5; obtain ⟨fn, tmps, assign, body, hy, hR⟩ := HHY.out _ (b + (k : Int), x) w5 (HHJ.out _ _ _ none HJA.out (grown_of_below HB5.out _) (fun r e => by cases e)) (HLE.out k hkl); unfold partV at hy; have hR2 := hR.mono (R' := fun e W' => ∃ q : Bool, e = .returned (.bool q) ∧ Aside0 (if q then J ((allParts (ps.take i) (bs.take i) ++ rowParts b (p.take k)) ++ [(b + (k : Int), x)]) W' ∧ Below w0.heap.size w5 W' ∧ W'.heap[Bn]? = w5.heap[Bn]? else Jx ((allParts (ps.take i) (bs.take i) ++ rowParts b (p.take k)) ++ [(b + (k : Int), x)]) W')) (fun e W' h => by (rcases h with ⟨rfl, h⟩ | ⟨rfl, h⟩); exact ⟨true, rfl, ⟨h⟩⟩; exact ⟨false, rfl, ⟨h⟩⟩); clear hR))
          all_goals clear y0 y1 hy
          all_goals cases q
          all_goals gi_wp2
          all_goals first
            | (refine bodyPost_ret (results_none rfl _ _ _) rfl ?_
               exact ⟨⟨_, rfl⟩, .inr ⟨_, by have h := HPX.out (k + 1); rw [HRT.out, ← List.append_assoc] at h; exact h, by simpa using hq6.out⟩⟩)
            | (have HQ := hq6.out
               rw [if_pos trivial] at HQ
               have HQ := Aside0.mk HQ
               clear hq6
               gi_roundg (p.length - (k + 1))
               case measure => omega
               case rel =>
                 have hb56 : Below w0.heap.size w0 w6 := (below_then HBA.out HBA.out.size HB5.out).trans HQ.out.2.1
                 refine ⟨k + 1, by omega, by omega, by go_num, ⟨hb56⟩, ⟨?_⟩, ⟨?_⟩, ⟨?_⟩⟩
                 · have h1 := HSA.out; have h2 := HB5.out.size; have h3 := HQ.out.2.1.size; simp at h2; omega
                 · exact HQ.out.2.2.trans (blk_below5 HB5.out HBN.out)
                 · rw [HRT.out, ← List.append_assoc]; exact HQ.out.1)
        · have hkz : decide ((k : Int) < (p.length : Int)) = false := decide_eq_false (by omega)
          have HK := Aside0.mk (show k = p.length by omega)
          gi_wp2
          gi_roundg (ps.length - (i + 1))
          case measure => omega
          case rel => exact ⟨i + 1, by omega, by omega, by go_num, ⟨BI.out⟩, ⟨SI.out⟩, ⟨BBI.out⟩, ⟨by have h := HJI.out; rw [HK.out, List.take_length, ← HAP.out] at h; exact h⟩⟩
    · have hiz : decide ((i : Int) < (ps.length : Int)) = false := decide_eq_false (by omega)
      have HI := Aside0.mk (show i = ps.length by omega)
      gi_wp2
      go_end0
      have hj := HJ.out
      rw [HI.out, List.take_length, HHT.out.len, List.take_length] at hj
      exact ⟨⟨_, rfl⟩, .inl ⟨_, rfl, hj⟩⟩
end Go.Proofs.YtpbkdeelkpjccaaDoor.G
