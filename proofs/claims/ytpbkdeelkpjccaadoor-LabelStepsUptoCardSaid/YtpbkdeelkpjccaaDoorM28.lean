/- Merged by merge.py out of: GlatticeJoin, HlabelsA, Hlabels. -/
import Derived.Test.YtpbkdeelkpjccaaDoorM03
import Derived.Test.YtpbkdeelkpjccaaDoorM27
import Derived.Test.YtpbkdeelkpjccaaDoorM18
import Derived.Test.YtpbkdeelkpjccaaDoorM16
-- Laid by xprint.py (this work's own driver of the kit's printer).
namespace Go.Proofs.YtpbkdeelkpjccaaDoor.G
open Go.RowKit Go.Proofs.YtpbkdeelkpjccaaDoorW.PrintWords Go.Proofs.YtpbkdeelkpjccaaDoorW.PrintLast Go.Proofs.YtpbkdeelkpjccaaDoorW.PrintMore
attribute [local go_sem] max2_int min2_int max_two min_two max_three min_three max_four min_four   -- for this text's walks alone
set_option linter.unusedVariables false
set_option linter.unusedSimpArgs false
def lattice_Join.f (a0_0 : Int) (a0_1 : Int) (a1_0 : Int) (a1_1 : Int) : Option (Int × Int) := some (mx a0_0 a1_0, Go.bits .or .u64 a0_1 a1_1)
set_option maxHeartbeats 8000000 in
set_option maxRecDepth 100000 in
theorem lattice_Join.calls (a0_0 : Int) (a0_1 : Int) (a1_0 : Int) (a1_1 : Int) (r1 : Int) (r2 : Int) (w : World) (h : lattice_Join.f a0_0 a0_1 a1_0 a1_1 = some (r1, r2)) :
    Calls Tryd.prog 37 #[.agg #[.int .i64 a0_0, .int .u64 a0_1], .agg #[.int .i64 a1_0, .int .u64 a1_1]] w fun e w' => e = .returned (.agg #[.int .i64 r1, .int .u64 r2]) ∧ Below w.heap.size w w' := by
  have hu46 := Tryd.underlying46
  have HB := Aside0.mk (Below.refl w.heap.size w)
  have H : (some (mx a0_0 a1_0, Go.bits .or .u64 a0_1 a1_1)) = some (r1, r2) := h
  clear h
  obtain ⟨ji3, hji3⟩ : ∃ j_ : Int, (mx a0_0 a1_0) = j_ := ⟨_, rfl⟩
  replace H : (some (ji3, Go.bits .or .u64 a0_1 a1_1)) = some (r1, r2) := by first | (rw [hji3] at H; exact H) | (simp only [hji3] at H ⊢; exact H)
  have hji3_ : (if a0_0 < a1_0 then a1_0 else a0_0) = ji3 := hji3
  simp only [Option.some.injEq, Prod.mk.injEq] at H
  obtain ⟨rfl, rfl⟩ := H
  go_enter Tryd.func37, Tryd.ntmps37
  go_wp2_with (first | ((with_reducible refine gate_dst (N := 2) rfl ?_); refine box_event ?hg (N := 2) ?hd (cs := #[.int .i64 a0_0, .int .u64 a0_1]) (t := 46) ?hr ?_; (case hd => rfl); (case hg => rfl); (case hr => first | (go_simp; done) | (go_simp; rfl)); intro gb1 hg w4 hbox hb; have n0_ := Aside0.mk (below_step (by repeat (first | (with_reducible first | exact HB.out | apply below_alloc | apply pw_below_drewN | apply below_drew1) | exact HB.out)) hb); have n1_ := Aside0.mk (hbox); have n2_ := Aside0.mk ((by rw [hg]; exact (below_size (by repeat (first | (with_reducible first | exact HB.out | apply below_alloc | apply pw_below_drewN | apply below_drew1) | exact HB.out))) : w.heap.size ≤ gb1)); have n3_ := Aside0.mk ((by rw [hg]; exact (below_size (by repeat (first | (with_reducible first | exact HB.out | apply below_alloc | apply pw_below_drewN | apply below_drew1) | exact HB.out))) : w.heap.size ≤ gb1)); clear HB; have HB := n0_; have BK1 := n1_; have GW1 := n2_; have GE1 := n3_; clear n0_ n1_ n2_ n3_; clear hb hbox hg) | ((with_reducible refine gate_dst (N := 3) rfl ?_); refine box_event ?hg (N := 3) ?hd (cs := #[.int .i64 a1_0, .int .u64 a1_1]) (t := 46) ?hr ?_; (case hd => rfl); (case hg => rfl); (case hr => first | (go_simp; done) | (go_simp; rfl)); intro gb2 hg w5 hbox hb; have n0_ := Aside0.mk (blk_below (g := gb1) (o := .cells #[.int .i64 a0_0, .int .u64 a0_1] 46 (0, 0)) (by (with_reducible repeat (first | refine blk_drewN ?_ _ | refine blk_drew ?_ | refine blk_alloc ?_ _)); exact BK1.out) hb); have n1_ := Aside0.mk (below_step (by repeat (first | (with_reducible first | exact HB.out | apply below_alloc | apply pw_below_drewN | apply below_drew1 | refine below_set ?_ GE1.out) | exact HB.out)) hb); have n2_ := Aside0.mk (hbox); have n3_ := Aside0.mk ((by rw [hg]; exact (below_size (by repeat (first | (with_reducible first | exact HB.out | apply below_alloc | apply pw_below_drewN | apply below_drew1 | refine below_set ?_ GE1.out) | exact HB.out))) : w.heap.size ≤ gb2)); have n4_ := Aside0.mk ((by rw [hg]; exact (below_size (by repeat (first | (with_reducible first | exact HB.out | apply below_alloc | apply pw_below_drewN | apply below_drew1 | refine below_set ?_ GE1.out) | exact HB.out))) : w.heap.size ≤ gb2)); have n5_ := Aside0.mk ((by rw [hg]; exact Nat.ne_of_lt (blk_lt (g := gb1) (o := .cells #[.int .i64 a0_0, .int .u64 a0_1] 46 (0, 0)) (by (with_reducible repeat (first | refine blk_drewN ?_ _ | refine blk_drew ?_ | refine blk_alloc ?_ _)); exact BK1.out)) : gb1 ≠ gb2)); have n6_ := Aside0.mk ((by rw [hg]; exact Nat.ne_of_gt (blk_lt (g := gb1) (o := .cells #[.int .i64 a0_0, .int .u64 a0_1] 46 (0, 0)) (by (with_reducible repeat (first | refine blk_drewN ?_ _ | refine blk_drew ?_ | refine blk_alloc ?_ _)); exact BK1.out)) : gb2 ≠ gb1)); clear BK1; clear HB; have BK1 := n0_; have HB := n1_; have BK2 := n2_; have GW2 := n3_; have GE2 := n4_; have NB1_2 := n5_; have NB2_1 := n6_; clear n0_ n1_ n2_ n3_ n4_ n5_ n6_; clear hb hbox hg) | ((with_reducible refine gate_dst (N := 4) rfl ?_); refine box_event ?hg (N := 4) ?hd (cs := #[.int .i64 0, .int .u64 0]) (t := 46) ?hr ?_; (case hd => rfl); (case hg => rfl); (case hr => first | (go_simp; done) | (go_simp; rfl)); intro gb3 hg w6 hbox hb; have n0_ := Aside0.mk (blk_below (g := gb1) (o := .cells #[.int .i64 a0_0, .int .u64 a0_1] 46 (0, 0)) (by (with_reducible repeat (first | refine blk_drewN ?_ _ | refine blk_drew ?_ | refine blk_alloc ?_ _)); exact BK1.out) hb); have n1_ := Aside0.mk (blk_below (g := gb2) (o := .cells #[.int .i64 a1_0, .int .u64 a1_1] 46 (0, 0)) (by (with_reducible repeat (first | refine blk_drewN ?_ _ | refine blk_drew ?_ | refine blk_alloc ?_ _)); exact BK2.out) hb); have n2_ := Aside0.mk (below_step (by repeat (first | (with_reducible first | exact HB.out | apply below_alloc | apply pw_below_drewN | apply below_drew1 | refine below_set ?_ GE1.out | refine below_set ?_ GE2.out) | exact HB.out)) hb); have n3_ := Aside0.mk (hbox); have n4_ := Aside0.mk ((by rw [hg]; exact (below_size (by repeat (first | (with_reducible first | exact HB.out | apply below_alloc | apply pw_below_drewN | apply below_drew1 | refine below_set ?_ GE1.out | refine below_set ?_ GE2.out) | exact HB.out))) : w.heap.size ≤ gb3)); have n5_ := Aside0.mk ((by rw [hg]; exact (below_size (by repeat (first | (with_reducible first | exact HB.out | apply below_alloc | apply pw_below_drewN | apply below_drew1 | refine below_set ?_ GE1.out | refine below_set ?_ GE2.out) | exact HB.out))) : w.heap.size ≤ gb3)); have n6_ := Aside0.mk ((by rw [hg]; exact Nat.ne_of_lt (blk_lt (g := gb1) (o := .cells #[.int .i64 a0_0, .int .u64 a0_1] 46 (0, 0)) (by (with_reducible repeat (first | refine blk_drewN ?_ _ | refine blk_drew ?_ | refine blk_alloc ?_ _)); exact BK1.out)) : gb1 ≠ gb3)); have n7_ := Aside0.mk ((by rw [hg]; exact Nat.ne_of_gt (blk_lt (g := gb1) (o := .cells #[.int .i64 a0_0, .int .u64 a0_1] 46 (0, 0)) (by (with_reducible repeat (first | refine blk_drewN ?_ _ | refine blk_drew ?_ | refine blk_alloc ?_ _)); exact BK1.out)) : gb3 ≠ gb1)); have n8_ := Aside0.mk ((by rw [hg]; exact Nat.ne_of_lt (blk_lt (g := gb2) (o := .cells #[.int .i64 a1_0, .int .u64 a1_1] 46 (0, 0)) (by (with_reducible repeat (first | refine blk_drewN ?_ _ | refine blk_drew ?_ | refine blk_alloc ?_ _)); exact BK2.out)) : gb2 ≠ gb3)); have n9_ := Aside0.mk ((by rw [hg]; exact Nat.ne_of_gt (blk_lt (g := gb2) (o := .cells #[.int .i64 a1_0, .int .u64 a1_1] 46 (0, 0)) (by (with_reducible repeat (first | refine blk_drewN ?_ _ | refine blk_drew ?_ | refine blk_alloc ?_ _)); exact BK2.out)) : gb3 ≠ gb2)); clear BK1; clear BK2; clear HB; have BK1 := n0_; have BK2 := n1_; have HB := n2_; have BK3 := n3_; have GW3 := n4_; have GE3 := n5_; have NB1_3 := n6_; have NB3_1 := n7_; have NB2_3 := n8_; have NB3_2 := n9_; clear n0_ n1_ n2_ n3_ n4_ n5_ n6_ n7_ n8_ n9_; clear hb hbox hg; have hnb7 := NB1_2.out; have hnc7 := NB2_1.out; have hnb8 := NB1_3.out; have hnc8 := NB3_1.out; have hcz9_0 : w6.cell? ⟨gb1, 0, none⟩ = some (.int .i64 a0_0) := (blk_cell BK1.out 0).trans rfl; have hcz9_1 : w6.cell? ⟨gb1, 1, none⟩ = some (.int .u64 a0_1) := (blk_cell BK1.out 1).trans rfl; have hfz9_0 := blk_frozen BK1.out 0; have hfz9_1 := blk_frozen BK1.out 1; have hnb10 := NB2_3.out; have hnc10 := NB3_2.out; have hcz11_0 : w6.cell? ⟨gb2, 0, none⟩ = some (.int .i64 a1_0) := (blk_cell BK2.out 0).trans rfl; have hcz11_1 : w6.cell? ⟨gb2, 1, none⟩ = some (.int .u64 a1_1) := (blk_cell BK2.out 1).trans rfl; have hfz11_0 := blk_frozen BK2.out 0; have hfz11_1 := blk_frozen BK2.out 1; have hcz12_0 : w6.cell? ⟨gb3, 0, none⟩ = some (.int .i64 0) := (blk_cell BK3.out 0).trans rfl; have hcz12_1 : w6.cell? ⟨gb3, 1, none⟩ = some (.int .u64 0) := (blk_cell BK3.out 1).trans rfl; have hfz12_0 := blk_frozen BK3.out 0; have hfz12_1 := blk_frozen BK3.out 1))
  refine bodyPost_ret (results_cell_row rfl _ _ gb3 46 #[.int .i64 ji3, .int .u64 (Go.bits .or .u64 a0_1 a1_1)] (0, 0) _ rfl (by (with_reducible repeat (first | refine blk_drewN ?_ _ | refine blk_drew ?_ | refine blk_alloc ?_ _)); refine blk_put (cs := #[.int .i64 ji3, .int .u64 0]) ?_ 1 _ rfl; (with_reducible repeat (first | refine blk_drewN ?_ _ | refine blk_drew ?_ | refine blk_alloc ?_ _)); refine blk_put (cs := #[.int .i64 0, .int .u64 0]) ?_ 0 _ rfl; (with_reducible repeat (first | refine blk_drewN ?_ _ | refine blk_drew ?_ | refine blk_alloc ?_ _)); exact BK3.out) Tryd.underlying46 rfl (by kernel_rfl)) rfl ?_
  exact ⟨by first | rfl | (simp [errW_none, errW_some] <;> rfl) | (simp only [← hji3]; first | rfl | (simp [errW_none, errW_some] <;> rfl)) | (simp [*, errW_none, errW_some] <;> rfl), by repeat (first | (with_reducible first | exact HB.out | apply below_alloc | apply pw_below_drewN | apply below_drew1 | refine below_set ?_ GE1.out | refine below_set ?_ GE2.out | refine below_set ?_ GE3.out) | exact HB.out)⟩
end Go.Proofs.YtpbkdeelkpjccaaDoor.G

namespace Go.Proofs.YtpbkdeelkpjccaaDoor.G
open Go.RowKit Go.Proofs.YtpbkdeelkpjccaaDoorW.PrintWords Go.Proofs.YtpbkdeelkpjccaaDoorW.PrintMore
set_option linter.unusedVariables false
set_option linter.unusedSimpArgs false
set_option maxHeartbeats 4000000 in
theorem over_any (x y : S46) (w : World) :
    Calls Tryd.prog 40 #[.agg #[.int .i64 x.f0, .int .u64 x.f1], .agg #[.int .i64 y.f0, .int .u64 y.f1]] w fun e w' => e = .returned (.bool (overB x y)) ∧ Below w.heap.size w w' := by
  have hu46 := Tryd.underlying46
  have hb0 : Below w.heap.size w ((w.alloc (.cells #[.int .i64 x.f0, .int .u64 x.f1] 46)).alloc (.cells #[.int .i64 y.f0, .int .u64 y.f1] 46)) := below_alloc (below_alloc (Below.refl _ _) _) _
  have HB := Aside0.mk hb0
  clear hb0
  unfold overB
  by_cases h : y.f0 ≤ x.f0
  · rw [decide_eq_true h]
    generalize x.f0 = a at *
    generalize y.f0 = b at *
    generalize x.f1 = c at *
    generalize y.f1 = d at *
    go_enter Tryd.func40, Tryd.ntmps40
    go_wp2
    go_ret
    exact ⟨by simp, HB.out⟩
  · rw [decide_eq_false h]
    have h2 : ¬ y.f0 ≤ x.f0 := h
    generalize x.f0 = a at *
    generalize y.f0 = b at *
    generalize x.f1 = c at *
    generalize y.f1 = d at *
    go_enter Tryd.func40, Tryd.ntmps40
    go_wp2
    go_ret
    exact ⟨by simp, HB.out⟩
theorem join_any (x y : S46) (w : World) :
    Calls Tryd.prog 37 #[.agg #[.int .i64 x.f0, .int .u64 x.f1], .agg #[.int .i64 y.f0, .int .u64 y.f1]] w fun e w' => e = .returned (.agg #[.int .i64 (joinL x y).f0, .int .u64 (joinL x y).f1]) ∧ Below w.heap.size w w' :=
  lattice_Join.calls x.f0 x.f1 y.f0 y.f1 _ _ w rfl
structure LaAt (n Bo M : Nat) (w00 : World) (L : List S46) (W : World) : Prop where
  ok : Labs n L
  bel : Below w00.heap.size w00 W
  bo : W.heap[Bo]? = some (.cells #[.slice (some ⟨M, 0, none⟩) n n] 59 (0, 0))
  bm : W.heap[M]? = some (.cells (labs L).toArray 46 (0, 0))
section
variable {n Bo M : Nat} {w00 : World} {L : List S46} {W W' : World}
theorem LaAt.keep {row : Option Nat} (H : LaAt n Bo M w00 L W) (hg : W.grownBy W' row) (h0 : ∀ k, row = some k → w00.heap.size ≤ k) (hr : ∀ k, row = some k → k ≠ Bo ∧ k ≠ M) : LaAt n Bo M w00 L W' :=
  ⟨H.ok, H.bel.grown hg H.bel.size h0, blk_grown H.bo hg (fun e => (hr _ e.symm).1 rfl), blk_grown H.bm hg (fun e => (hr _ e.symm).2 rfl)⟩
theorem LaAt.below (H : LaAt n Bo M w00 L W) (hb : Below W.heap.size W W') : LaAt n Bo M w00 L W' := H.keep (grown_of_below hb none) (fun k e => by cases e) (fun k e => by cases e)
theorem LaAt.put (H : LaAt n Bo M w00 L W) (hne : Bo ≠ M) (hM : w00.heap.size ≤ M) {k : Nat} {u : S46} (hu : LabOk u) : LaAt n Bo M w00 (L.set k u) ((W.setCell ⟨M, k * 2, none⟩ (.int .i64 u.f0)).setCell ⟨M, k * 2 + 1, none⟩ (.int .u64 u.f1)) := by
  refine ⟨H.ok.set k hu, ?_, blk_far (blk_far H.bo hne _) hne _, ?_⟩
  · exact below_set (below_set H.bel (show w00.heap.size ≤ M from hM)) (show w00.heap.size ≤ M from hM)
  · rw [blk_set (blk_set H.bm _ _) _ _]
    rw [← labs_set]
    simp
theorem LaAt.cell0 (H : LaAt n Bo M w00 L W) {k : Nat} (hk : k < n) : W.cell? ⟨M, k * 2, none⟩ = some (.int .i64 (L.getD k z46).f0) := (blk_cell H.bm _).trans (by rw [List.getElem?_toArray, labs_get0 L k (by rw [H.ok.1]; exact hk)])
theorem LaAt.cell1 (H : LaAt n Bo M w00 L W) {k : Nat} (hk : k < n) : W.cell? ⟨M, k * 2 + 1, none⟩ = some (.int .u64 (L.getD k z46).f1) := (blk_cell H.bm _).trans (by rw [List.getElem?_toArray, labs_get1 L k (by rw [H.ok.1]; exact hk)])
end
set_option maxHeartbeats 4000000 in
set_option maxRecDepth 100000 in
theorem labels1_over (n Bo M : Nat) (w00 : World) (hn : n ≤ 2000) (L : List S46) (W : World) (H : LaAt n Bo M w00 L W) (a k : Int) (p : Nat) (ha0 : 0 ≤ a) (ha1 : a < (n : Int)) (hk0 : 0 ≤ k) (hk1 : k < (n : Int))
    (ho : overB (L.getD k.toNat z46) (L.getD a.toNat z46) = true) :
    Calls Tryd.prog 39 (#[.int .i64 a, .int .i64 k, .int .i64 (p : Int)] ++ #[.pointer (some ⟨Bo, 0, none⟩)]) W fun e W' => e = .returned (.bool false) ∧ LaAt n Bo M w00 L W' ∧ W.grownBy W' (some M) := by
  have hza : a.toNat < n := by omega
  have hzk : k.toNat < n := by omega
  have a0 := H.cell0 hza
  have a1 := H.cell1 hza
  have k0 := H.cell0 hzk
  have k1 := H.cell1 hzk
  have b0 : W.cell? ⟨Bo, 0, none⟩ = some (.slice (some ⟨M, 0, none⟩) n n) := (blk_cell H.bo 0).trans rfl
  have hM : M < W.heap.size := (Array.getElem?_eq_some_iff.1 H.bm).1
  have hB : Bo < W.heap.size := (Array.getElem?_eq_some_iff.1 H.bo).1
  have HH := Aside0.mk H
  have cO := fun W => over_any (L.getD k.toNat z46) (L.getD a.toNat z46) W
  rw [ho] at cO
  generalize L.getD k.toNat z46 = x at *
  generalize L.getD a.toNat z46 = y at *
  have CO := Aside0.mk cO
  have hrule := held_cell (W1 := W)
  clear H ho cO
  simp only [List.append_toArray, List.cons_append, List.nil_append]
  go_enter Tryd.func39, Tryd.ntmps39
  go_wp2
  go_region_held3 (fun w' => Below W.heap.size W w')
    (first | (with_reducible exact below_drew (Below.refl _ _)) | (with_reducible exact HB6.out) | (with_reducible assumption))
    (first | (go_at_call 40; refine (CO.out _).mono ?_; rintro e w6 ⟨rfl, hb6⟩; have HB6 := Aside0.mk (held_call (W1 := W) (by with_reducible assumption) hb6); clear hb6))
  go_wp2
  go_ret
  exact ⟨rfl, HH.out.below HB6.out, grown_of_below HB6.out _⟩
set_option maxHeartbeats 4000000 in
set_option maxRecDepth 100000 in
theorem labels1_join (n Bo M : Nat) (w00 : World) (hn : n ≤ 2000) (hne : Bo ≠ M) (hM0 : w00.heap.size ≤ M) (L : List S46) (W : World) (H : LaAt n Bo M w00 L W) (a k : Int) (p : Nat) (ha0 : 0 ≤ a) (ha1 : a < (n : Int)) (hk0 : 0 ≤ k) (hk1 : k < (n : Int))
    (ho : overB (L.getD k.toNat z46) (L.getD a.toNat z46) = false) :
    Calls Tryd.prog 39 (#[.int .i64 a, .int .i64 k, .int .i64 (p : Int)] ++ #[.pointer (some ⟨Bo, 0, none⟩)]) W fun e W' => e = .returned (.bool true) ∧ LaAt n Bo M w00 (L.set k.toNat (joinL (L.getD k.toNat z46) (L.getD a.toNat z46))) W' ∧ W.grownBy W' (some M) := by
  have hza : a.toNat < n := by omega
  have hzk : k.toNat < n := by omega
  have a0 := H.cell0 hza
  have a1 := H.cell1 hza
  have k0 := H.cell0 hzk
  have k1 := H.cell1 hzk
  have b0 : W.cell? ⟨Bo, 0, none⟩ = some (.slice (some ⟨M, 0, none⟩) n n) := (blk_cell H.bo 0).trans rfl
  have hM : M < W.heap.size := (Array.getElem?_eq_some_iff.1 H.bm).1
  have hB : Bo < W.heap.size := (Array.getElem?_eq_some_iff.1 H.bo).1
  have HH := Aside0.mk H
  have cO := fun W => over_any (L.getD k.toNat z46) (L.getD a.toNat z46) W
  rw [ho] at cO
  have cJ := fun W => join_any (L.getD k.toNat z46) (L.getD a.toNat z46) W
  have HJ := Aside0.mk (join_ok (H.ok.get hzk) (H.ok.get hza))
  generalize hxx : L.getD k.toNat z46 = x at *
  generalize hyy : L.getD a.toNat z46 = y at *
  have HX := Aside0.mk hxx
  have HY := Aside0.mk hyy
  clear hxx hyy
  generalize joinL x y = u at *
  have CO := Aside0.mk cO
  have CJ := Aside0.mk cJ
  have hrule := held_cell (W1 := W)
  clear H ho cO cJ
  simp only [List.append_toArray, List.cons_append, List.nil_append]
  go_enter Tryd.func39, Tryd.ntmps39
  go_wp2
  go_region_held3 (fun w' => Below W.heap.size W w')
    (first | (with_reducible exact below_drew (Below.refl _ _)) | (with_reducible exact HB6.out) | (with_reducible assumption))
    (first | (go_at_call 40; refine (CO.out _).mono ?_; rintro e w6 ⟨rfl, hb6⟩; have HB6 := Aside0.mk (held_call (W1 := W) (by with_reducible assumption) hb6); clear hb6))
  have H6 := Aside0.mk (HH.out.below HB6.out)
  have HG6 := Aside0.mk (grown_of_below HB6.out (some M))
  clear a0 a1 k0 k1 b0 hrule hM hB
  have hxx : L.getD k.toNat z46 = x := HX.out
  have hyy : L.getD a.toNat z46 = y := HY.out
  have a0 := H6.out.cell0 hza
  have a1 := H6.out.cell1 hza
  have k0 := H6.out.cell0 hzk
  have k1 := H6.out.cell1 hzk
  rw [hyy] at a0 a1
  rw [hxx] at k0 k1
  clear hxx hyy
  have b0 : w6.cell? ⟨Bo, 0, none⟩ = some (.slice (some ⟨M, 0, none⟩) n n) := (blk_cell H6.out.bo 0).trans rfl
  have hM : M < w6.heap.size := (Array.getElem?_eq_some_iff.1 H6.out.bm).1
  have hB : Bo < w6.heap.size := (Array.getElem?_eq_some_iff.1 H6.out.bo).1
  have hrule := held_cell (W1 := w6)
  go_wp2
  go_region_law (go_simp; go_at_call 37; refine (CJ.out _).mono ?_; rintro e w7 ⟨rfl, hb7⟩; have H7 := Aside0.mk (H6.out.below (below_then (below_drew (Below.refl w6.heap.size w6)) (Nat.le_refl _) hb7)); have HG7 := Aside0.mk (grown_of_below (below_then (below_drew (Below.refl w6.heap.size w6)) (Nat.le_refl _) hb7) (some M)); clear hb7; have b7 : w7.cell? ⟨Bo, 0, none⟩ = some (.slice (some ⟨M, 0, none⟩) n n) := (blk_cell H7.out.bo 0).trans rfl; have f0 : w7.frozen? ⟨M, k.toNat * 2, none⟩ = false := blk_frozen H7.out.bm _; have f1 : w7.frozen? ⟨M, k.toNat * 2 + 1, none⟩ = false := blk_frozen H7.out.bm _; have c0 := H7.out.cell0 hzk; have c1 := H7.out.cell1 hzk)
  all_goals
    go_wp2
    go_ret
    exact ⟨rfl, H7.out.put hne hM0 HJ.out, World.grownBy.trans (World.grownBy.trans (World.grownBy.trans HG6.out HG7.out) (grown_cell _ _ _ _)) (grown_cell _ _ _ _)⟩
theorem labels1_tell (g : List S34) (Bo M : Nat) (w00 : World) (hn : g.length ≤ 2000) (hok : graphB g = true) (hne : Bo ≠ M) (hM0 : w00.heap.size ≤ M) (w : World) (hw : w00.heap.size ≤ w.heap.size) (hMw : M < w.heap.size) (hBw : Bo < w.heap.size) :
    TellAt labTell mlsum (LaAt g.length Bo M w00) g 39 #[.pointer (some ⟨Bo, 0, none⟩)] M w := by
  have kid : ∀ (a k : Int) (p : Nat), 0 ≤ a → a < (g.length : Int) → (rd_T34 g a).f3[p]? = some k → 0 ≤ k ∧ k < (g.length : Int) := fun a k p h0 h1 hk =>
    graph_kids hok _ (by unfold rd_T34; rw [getD_lt _ _ (by omega)]; exact List.getElem_mem _) k (List.mem_of_getElem? hk)
  refine ⟨?_, ?_, ?_, ?_⟩
  · intro s W W' row h hg hr
    exact h.keep hg (fun k e => by have := hr k e; omega) (fun k e => by have := hr k e; omega)
  · intro s W a k p s' h h0 h1 hk ht
    obtain ⟨k0, k1⟩ := kid a k p h0 h1 hk
    unfold labTell at ht
    split at ht
    · cases ht
    · rename_i ho
      obtain rfl := Option.some.inj ht
      exact mlsum_set h.ok (show k.toNat < g.length by omega) (ml_lt (h.ok.get (by omega)) (h.ok.get (by omega)) (by simpa using ho))
  · intro s W a k p h hg h0 h1 hk ht
    obtain ⟨k0, k1⟩ := kid a k p h0 h1 hk
    unfold labTell at ht
    split at ht
    · rename_i ho
      exact labels1_over g.length Bo M w00 hn s W h a k p h0 h1 k0 k1 ho
    · cases ht
  · intro s W a k p s' h hg h0 h1 hk ht
    obtain ⟨k0, k1⟩ := kid a k p h0 h1 hk
    unfold labTell at ht
    split at ht
    · cases ht
    · rename_i ho
      obtain rfl := Option.some.inj ht
      exact labels1_join g.length Bo M w00 hn hne hM0 s W h a k p h0 h1 k0 k1 (by simpa using ho)
end Go.Proofs.YtpbkdeelkpjccaaDoor.G

namespace Go.Proofs.YtpbkdeelkpjccaaDoor.G
open Go.RowKit Go.Proofs.YtpbkdeelkpjccaaDoorW.PrintWords Go.Proofs.YtpbkdeelkpjccaaDoorW.PrintMore
set_option linter.unusedVariables false
set_option linter.unusedSimpArgs false
theorem make_labs (n : Nat) (hn : n ≤ 2000) (W : World) : (Instr.makeSlice 59 (.int .i64 (n : Int)) (.int .i64 (n : Int))).run Tryd.prog W = .ok (.slice (some ⟨W.heap.size, 0, none⟩) n n) (W.alloc (.cells (labs (List.replicate n z46)).toArray 46)) := by
  obtain ⟨i0, hi, hz0, hz1, hz2⟩ := info_parts (show (Tryd.prog.info? 46).map (fun i => (i.zero, i.size, i.bytes)) = some (some (.agg #[.int .i64 0, .int .u64 0]), 2, 16) by kernel_rfl)
  have h := run_make (P := Tryd.prog) (w := W) 59 46 i0 _ Tryd.underlying59 hi hz0 .i64 .i64 (n : Int) (n : Int) (by omega) (by omega) (by rw [hz2]; omega) (by omega)
  rw [h, hz1]
  have e : madeCells (Value.agg #[.int .i64 0, .int .u64 0]).cells ((n : Int).toNat * 2) = (labs (List.replicate n z46)).toArray := by
    rw [labs_zero]
    apply Array.ext
    · simp [size_madeCells]
    · intro i h1 h2
      have hm : i % 2 < 2 := Nat.mod_lt _ (by omega)
      simp [madeCells, Value.cells]
      match i % 2, hm with
      | 0, _ => rfl
      | 1, _ => rfl
  rw [e]
  simp
set_option maxHeartbeats 4000000 in
set_option maxRecDepth 100000 in
theorem labels_no (p : PolV) (A0 : Option Addr) (c0 : Nat) (A1 : Option Addr) (c1 : Nat) (A3 : Option Addr) (c3 : Nat) (g : List S34) (A : Option Addr) (c : Nat) (w : World) (H : PolAt p A0 c0 A1 c1 A3 c3 w)
    (hr : Kd.C k34 w A g.length g) (hc : g.length ≤ c) (hfit : fitG g) (he : wrongE p g ≠ 0) :
    Calls Tryd.prog 16 #[polArg p A0 c0 A1 c1 A3 c3, .slice A g.length c] w fun e w' => e = .returned (.tuple #[.slice none 0 0, .int .i64 (wrongE p g)]) ∧ Below w.heap.size w w' := by
  have hb0 : Below w.heap.size w (w.alloc (.cells #[.slice A0 p.lev.length c0, .slice A1 p.cats.length c1, .string p.mask, .slice A3 p.rules.length c3] 41)) := below_alloc (Below.refl _ _) _
  have hcall := hits_no p A0 c0 A1 c1 A3 c3 g A c _ (H.below p A0 c0 A1 c1 A3 c3 hb0) (Kd.C_below hr hb0) hc hfit he
  unfold polArg at hcall ⊢
  have hu41 := Tryd.underlying41
  have hu38 := Tryd.underlying38
  have hne : (wrongE p g != 0) = true := by simpa using he
  have he2 : (wrongE p g == 0) = false := by simpa using he
  generalize wrongE p g = e0 at *
  clear H hr hc hfit he
  generalize p.lev.length = n0 at *
  generalize p.cats.length = n1 at *
  generalize p.rules.length = n3 at *
  generalize p.mask = mask at *
  generalize g.length = n at *
  go_enter Tryd.func16, Tryd.ntmps16
  go_wp2_with fail
  refine hcall.mono ?_
  rintro e w1 ⟨rfl, hb1⟩
  have HB := Aside0.mk (below_then hb0 hb0.size hb1)
  clear hb0 hb1 hcall
  go_wp2
  go_ret2
  exact ⟨rfl, HB.out⟩
set_option maxHeartbeats 4000000 in
set_option maxRecDepth 100000 in
theorem labels_yes (p : PolV) (A0 : Option Addr) (c0 : Nat) (A1 : Option Addr) (c1 : Nat) (A3 : Option Addr) (c3 : Nat) (g : List S34) (A : Option Addr) (c : Nat) (w : World) (H : PolAt p A0 c0 A1 c1 A3 c3 w)
    (hr : Kd.C k34 w A g.length g) (hc : g.length ≤ c) (hfit : fitGB g = true) (he : wrongE p g = 0) :
    Calls Tryd.prog 16 #[polArg p A0 c0 A1 c1 A3 c3, .slice A g.length c] w fun e w' => ∃ M, e = .returned (.tuple #[.slice (some ⟨M, 0, none⟩) g.length g.length, .int .i64 0]) ∧ w'.heap[M]? = some (.cells (labs (labelsL p g)).toArray 46 (0, 0)) ∧ w.heap.size ≤ M ∧ Below w.heap.size w w' := by
  have hb0 : Below w.heap.size w (w.alloc (.cells #[.slice A0 p.lev.length c0, .slice A1 p.cats.length c1, .string p.mask, .slice A3 p.rules.length c3] 41)) := below_alloc (Below.refl _ _) _
  have hcall := hits_yes p A0 c0 A1 c1 A3 c3 g A c _ (H.below p A0 c0 A1 c1 A3 c3 hb0) (Kd.C_below hr hb0) hc hfit he
  obtain ⟨hpb, hgb⟩ := wrongE_zero he
  have hgl := graph_len hgb
  have HPB := Aside0.mk hpb
  have HGB := Aside0.mk hgb
  have HFP := Aside0.mk H.fit
  have HR := Aside0.mk hr
  have HPR := Aside0.mk H.h3
  have HC := Aside0.mk hc
  have HF := Aside0.mk hfit
  have HTT := Aside0.mk H.hT
  have hmk : ∀ W : World, _ := fun W => make_labs g.length hgl.2 W
  unfold polArg at hcall ⊢
  have hu41 := Tryd.underlying41
  have hu38 := Tryd.underlying38
  have hu46 := Tryd.underlying46
  have HGL := Aside0.mk hgl
  have hgi : (g.length : Int) ≤ 2000 := by omega
  clear H hr hc hfit he hpb hgb hgl
  go_enter Tryd.func16, Tryd.ntmps16
  go_wp2_with fail
  have hkp0 : (w.alloc (.cells #[.slice A0 p.lev.length c0, .slice A1 p.cats.length c1, .string p.mask, .slice A3 p.rules.length c3] 41)).heap[w.heap.size]? = some (.cells #[.slice A0 p.lev.length c0, .slice A1 p.cats.length c1, .string p.mask, .slice A3 p.rules.length c3] 41 (0, 0)) := heap_alloc_new _ _
  refine hcall.mono ?_
  rintro e w1 ⟨vs, MH, rfl, hRows, hMH, hb1⟩
  have HB1 := Aside0.mk (below_then hb0 hb0.size hb1)
  have HP1 := Aside0.mk (blk_below5 hb1 hkp0)
  have HRo := Aside0.mk hRows
  have LP : w.heap.size < w1.heap.size := (Array.getElem?_eq_some_iff.1 HP1.out).1
  clear hb0 hb1 hcall hkp0 hRows hMH
  go_wp2
  have hL0 : LaAt g.length (w1.heap.size + 1) w1.heap.size w1 (labsTo p (hitsL p g) g.length 0) ((w1.alloc (.cells (labs (List.replicate g.length z46)).toArray 46)).alloc (.cells #[.slice (some ⟨w1.heap.size, 0, none⟩) g.length g.length] 59)) :=
    ⟨⟨by simp [labsTo], fun x hx => by rw [(List.mem_replicate.1 hx).2]; exact zero_ok⟩, below_alloc (below_alloc (Below.refl _ _) _) _, heap_alloc2_new _ _ _, heap_alloc2_old _ _ _⟩
  generalize ((w1.alloc (.cells (labs (List.replicate g.length z46)).toArray 46)).alloc (.cells #[.slice (some ⟨w1.heap.size, 0, none⟩) g.length g.length] 59)) = W1 at *
  have HL0 := Aside0.mk hL0
  clear hL0 hmk
  have HLP := Aside0.mk LP
  have hHL := hitsL_len p g
  have HML := Aside0.mk (hitsL_mem p g)
  have HLAB : Aside0 (labs0 p g = labsTo p (hitsL p g) g.length g.length) := ⟨rfl⟩
  generalize hHH : hitsL p g = HH at *
  have HHL := Aside0.mk hHL
  have HHV : Aside0 (vs.length = g.length) := ⟨by rw [HRo.out.len, hHL]⟩
  have HJ0 : Aside0 (∀ l x, LabOk x → (∀ i ∈ l, 0 ≤ i ∧ i < (p.rules.length : Int)) → LabOk (joinTo p x l)) := ⟨fun l x => joinTo_ok HPB.out HFP.out l x⟩
  have HRL : Aside0 (∀ i, 0 ≤ i → i < (p.rules.length : Int) → LabOk (rd_T50 p.rules i).f2) := ⟨fun i h0 h1 => rule_lab HPB.out HFP.out h0 h1⟩
  clear LP hHH
  have hgl2 : g.length ≤ 2000 := HGL.out.2
  go_loopg [27] g.length (fun gg s27 wr => ∃ (k : Nat), k ≤ g.length ∧ g.length - k ≤ gg ∧ s27 = .int .i64 k ∧ Aside0 (LaAt g.length (w1.heap.size + 1) w1.heap.size w1 (labsTo p HH g.length k) wr))
  case atStart => exact ⟨0, Nat.zero_le _, by omega, rfl, ⟨HL0.out⟩⟩
  case round =>
    obtain ⟨k, hk, hkg, rfl, LA⟩ := hrel
    obtain ⟨wo, rfl⟩ : ∃ wo : World, wo = wr := ⟨_, rfl⟩
    by_cases hkl : k < g.length
    · have hkz : (k : Int) < (g.length : Int) := by omega
      have hkH : k < HH.length := by omega
      obtain ⟨Ar, cr, evr, cvr0⟩ := HRo.out.reads hkH
      have cvr := (LA.out.bel.cell (World.block_lt_of_cell? w1 _ cvr0)).trans cvr0
      have hrr := HRo.out.el k hkH
      rw [evr] at hrr
      obtain ⟨Ar', cr', eo, lr, gr⟩ := Kd.R_reads hrr
      injection eo with eo1 eo2 eo3
      subst eo1 eo3
      have HRM : Aside0 (∀ i ∈ HH.getD k [], 0 ≤ i ∧ i < (p.rules.length : Int)) := ⟨by rw [getD_lt _ _ hkH]; exact HML.out _ (List.getElem_mem _)⟩
      have hrmax := gr.2.1
      have HGR := Aside0.mk gr
      have HROW : Aside0 (labsTo p HH g.length (k + 1) = (labsTo p HH g.length k).set k (joinTo p ((labsTo p HH g.length k).getD k z46) (HH.getD k []))) := ⟨labsTo_succ p HH g.length k⟩
      generalize HH.getD k [] = row at *
      generalize hL : labsTo p HH g.length k = L at *
      have HLA := Aside0.mk LA.out
      clear hL hrr evr lr cvr0 gr LA
      go_wp2
      go_loopg [34] row.length (fun gg s34 wi => ∃ (j : Nat), j ≤ row.length ∧ row.length - j ≤ gg ∧ s34 = .int .i64 j ∧ Aside0 (LaAt g.length (w1.heap.size + 1) w1.heap.size w1 (L.set k (joinTo p (L.getD k z46) (row.take j))) wi))
      case atStart => exact ⟨0, Nat.zero_le _, by omega, rfl, ⟨by rw [show row.take 0 = [] from rfl]; show LaAt _ _ _ _ (L.set k (L.getD k _)) _; rw [set_same]; exact HLA.out⟩⟩
      case round =>
        obtain ⟨j, hj, hjg, rfl, LI⟩ := hrel
        obtain ⟨wi, rfl⟩ : ∃ wi : World, wi = wr := ⟨_, rfl⟩
        by_cases hjl : j < row.length
        · have hjz : (j : Int) < (row.length : Int) := by omega
          obtain ⟨adr, er, pr⟩ := Kd.at_int (Kd.C_below HGR.out LI.out.bel) (j : Int) (by omega) hjz
          subst er
          rw [Int.toNat_natCast] at pr
          have hir := HRM.out (rd row (j : Int)) (by rw [rd_get _ j hjl]; exact List.getElem_mem _)
          have HTK := Aside0.mk (show row.take (j + 1) = row.take j ++ [rd row (j : Int)] by rw [rd_get _ j hjl, List.take_append_getElem hjl])
          generalize rd row (j : Int) = i at *
          have hi0 := hir.1
          have hi1 := hir.2
          obtain ⟨adp, Ap, cp, ep, q0, q1, q2, q3, q4, lp, gp⟩ := at_T50 (Kd.C_below HPR.out (HB1.out.trans (LI.out.bel.mono HB1.out.size))) i hi0 hi1
          subst ep
          have HRLi := Aside0.mk (HRL.out i hi0 hi1)
          have HJT : Aside0 (joinTo p (L.getD k z46) (row.take (j + 1)) = joinL (joinTo p (L.getD k z46) (row.take j)) (rd_T50 p.rules i).f2) := ⟨by rw [HTK.out, joinTo_snoc]⟩
          generalize (rd_T50 p.rules i).f2 = rl at *
          have k0 := LI.out.cell0 hkl
          have k1 := LI.out.cell1 hkl
          have hkL : k < (L.set k (joinTo p (L.getD k z46) (row.take j))).length := by rw [LI.out.ok.1]; exact hkl
          have hxe : (L.set k (joinTo p (L.getD k z46) (row.take j))).getD k z46 = joinTo p (L.getD k z46) (row.take j) := by rw [getD_lt _ _ hkL, List.getElem_set_self]
          have HXO := Aside0.mk (LI.out.ok.get hkl)
          rw [hxe] at k0 k1 HXO
          have HSS : Aside0 (∀ u, (L.set k (joinTo p (L.getD k z46) (row.take j))).set k u = L.set k u) := ⟨fun u => by rw [List.set_set]⟩
          have b0 : wi.cell? ⟨w1.heap.size + 1, 0, none⟩ = some (.slice (some ⟨w1.heap.size, 0, none⟩) g.length g.length) := (blk_cell LI.out.bo 0).trans rfl
          have p3 : wi.cell? ⟨w.heap.size, 3, none⟩ = some (.slice (some adp) p.rules.length c3) := (blk_cell (blk_below5 LI.out.bel HP1.out) 3).trans rfl
          have cJ := fun W => join_any (joinTo p (L.getD k z46) (row.take j)) rl W
          have HJO := Aside0.mk (join_ok HXO.out HRLi.out)
          generalize joinTo p (L.getD k z46) (row.take j) = x at *
          generalize joinL x rl = u at *
          generalize L.set k x = LL at *
          have CJ := Aside0.mk cJ
          clear cJ hxe hkL hir q0 q1 q4 lp gp HTK
          go_wp2
          go_region_law (go_simp; go_at_call 37; refine (CJ.out _).mono ?_; rintro e w7 ⟨rfl, hb7⟩; have H7 := Aside0.mk (LI.out.below (below_then (below_drew (Below.refl wi.heap.size wi)) (Nat.le_refl _) hb7)); clear hb7; have b7 : w7.cell? ⟨w1.heap.size + 1, 0, none⟩ = some (.slice (some ⟨w1.heap.size, 0, none⟩) g.length g.length) := (blk_cell H7.out.bo 0).trans rfl; have f0 : w7.frozen? ⟨w1.heap.size, k * 2, none⟩ = false := blk_frozen H7.out.bm _; have f1 : w7.frozen? ⟨w1.heap.size, k * 2 + 1, none⟩ = false := blk_frozen H7.out.bm _; have c0 := H7.out.cell0 hkl; have c1 := H7.out.cell1 hkl)
          all_goals
            go_wp2
            go_roundg (row.length - (j + 1))
            case measure => omega
            case rel => exact ⟨j + 1, by omega, by omega, by go_num, ⟨by rw [HJT.out, ← HSS.out]; exact H7.out.put (by omega) (Nat.le_refl _) HJO.out⟩⟩
        · have hjz : ¬ (j : Int) < (row.length : Int) := by omega
          have HJ := Aside0.mk (show row.take j = row by rw [List.take_of_length_le (by omega)])
          rw [HJ.out] at LI
          go_wp2
          go_roundg (g.length - (k + 1))
          case measure => omega
          case rel => exact ⟨k + 1, by omega, by omega, by go_num, ⟨by rw [HROW.out]; exact LI.out⟩⟩
    · have hkz : ¬ (k : Int) < (g.length : Int) := by omega
      have HK := Aside0.mk (show k = g.length by omega)
      rw [HK.out, ← HLAB.out] at LA
      have hMs : w1.heap.size < wo.heap.size := (Array.getElem?_eq_some_iff.1 LA.out.bm).1
      have hBs : w1.heap.size + 1 < wo.heap.size := (Array.getElem?_eq_some_iff.1 LA.out.bo).1
      have hT0 := labels1_tell g (w1.heap.size + 1) w1.heap.size w1 HGL.out.2 HGB.out (by omega) (Nat.le_refl _) wo LA.out.bel.size hMs hBs
      have hcall := spread_any labTell mlsum _ g 39 #[.pointer (some ⟨w1.heap.size + 1, 0, none⟩)] w1.heap.size wo (enters_of Tryd.func39 (by kernel_rfl) rfl) hT0 hMs A c ((HTT.out.below HB1.out).below LA.out.bel) w1 (Kd.C_below HR.out HB1.out) LA.out.bel (Nat.le_refl _) HC.out HF.out HGB.out (labs0 p g) LA.out
        (by have h1 := order_len HGB.out; have h2 := mlsum_top LA.out.ok; have h3 := HGL.out.2; omega)
      have HCL := Aside0.mk hcall
      clear hcall hT0 hMs hBs
      go_wp2_with (go_at_call 38; refine HCL.out.mono ?_; rintro e w9 ⟨rfl, h9, hg9⟩; have H9 := Aside0.mk h9; have c9 : w9.cell? ⟨w1.heap.size + 1, 0, none⟩ = some (.slice (some ⟨w1.heap.size, 0, none⟩) g.length g.length) := (blk_cell h9.bo 0).trans rfl; clear h9 hg9)
      go_ret2
      exact ⟨w1.heap.size, rfl, H9.out.bm, by have := HLP.out; omega, HB1.out.trans (H9.out.bel.mono HB1.out.size)⟩
end Go.Proofs.YtpbkdeelkpjccaaDoor.G
