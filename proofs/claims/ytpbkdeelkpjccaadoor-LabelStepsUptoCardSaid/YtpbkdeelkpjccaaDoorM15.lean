/- Merged by merge.py out of: GpathPartright, Hpath, Hgraph, HorderA. -/
import Derived.Test.YtpbkdeelkpjccaaDoorM03
import Derived.Test.YtpbkdeelkpjccaaDoorM05
import Derived.Test.YtpbkdeelkpjccaaDoorM07
import Derived.Test.YtpbkdeelkpjccaaDoorM13
import Derived.Test.YtpbkdeelkpjccaaDoorM14
-- Laid by xprint.py (this work's own driver of the kit's printer).
namespace Go.Proofs.YtpbkdeelkpjccaaDoor.G
open Go.RowKit Go.Proofs.YtpbkdeelkpjccaaDoorW.PrintWords Go.Proofs.YtpbkdeelkpjccaaDoorW.PrintLast Go.Proofs.YtpbkdeelkpjccaaDoorW.PrintMore
attribute [local go_sem] max2_int min2_int max_two min_two max_three min_three max_four min_four   -- for this text's walks alone
set_option linter.unusedVariables false
set_option linter.unusedSimpArgs false
def path_Part_right.f (a0_0 : Int) (a0_1 : ByteArray) : Option (Bool) := if a0_0 = 0 then ((utf8_ValidString.f a0_1).bind fun t2 => (if t2 = true then (some (decide ((a0_1.size : Int) ≤ 100))) else (some false))) else (if a0_0 = 1 then (some (a0_1.toList == ([] : List UInt8))) else (if a0_0 = 2 then (some (a0_1.toList == ([] : List UInt8))) else (some false)))
set_option maxHeartbeats 8000000 in
set_option maxRecDepth 100000 in
theorem path_Part_right.calls (a0_0 : Int) (a0_1 : ByteArray) (r : Bool) (w : World) (hT : Tabs w) (h : path_Part_right.f a0_0 a0_1 = some r) :
    Calls Tryd.prog 70 #[.agg #[.int .i64 a0_0, .string a0_1]] w fun e w' => e = .returned (.bool r) ∧ Below w.heap.size w w' := by
  have hu71 := Tryd.underlying71
  have HT := Aside0.mk hT
  clear hT
  have HB := Aside0.mk (Below.refl w.heap.size w)
  have H : (if a0_0 = 0 then ((utf8_ValidString.f a0_1).bind fun t2 => (if t2 = true then (some (decide ((a0_1.size : Int) ≤ 100))) else (some false))) else (if a0_0 = 1 then (some (a0_1.toList == ([] : List UInt8))) else (if a0_0 = 2 then (some (a0_1.toList == ([] : List UInt8))) else (some false)))) = some r := h
  clear h
  by_cases c2 : a0_0 = 0
  · rw [if_pos c2] at H
    have c2b0 : (a0_0 == 0) = true := beq_iff_eq.mpr c2
    have c2b1 : (a0_0 != 0) = false := bne_eq_false_iff_eq.mpr c2
    clear c2
    replace H := Option.bind_eq_some_iff.mp H
    obtain ⟨t2, A30, H⟩ := H
    replace H : (if t2 = true then (some (decide ((a0_1.size : Int) ≤ 100))) else (some false)) = some r := H
    have A3 := Aside0.mk A30
    clear A30
    by_cases c4 : t2 = true
    · subst c4
      have H1 : (some (decide ((a0_1.size : Int) ≤ 100))) = some r := by rw [if_pos rfl] at H; exact H
      clear H
      have H := H1
      clear H1
      obtain rfl := Option.some.inj H
      go_enter Tryd.func70, Tryd.ntmps70
      go_wp2_with (first | ((with_reducible refine gate_dst (N := 1) rfl ?_); (try (refine gate_guard (by rfl) ?_; dsimp only)); refine box_event ?hg (N := 1) ?hd (cs := #[.int .i64 a0_0, .string a0_1]) (t := 71) ?hr ?_; (case hd => rfl); (case hg => rfl); (case hr => first | (go_simp; done) | (go_simp; rfl)); intro gb1 hg w5 hbox hb; have n0_ := Aside0.mk (below_step (by repeat (first | (with_reducible first | exact HB.out | apply below_alloc | apply pw_below_drewN | apply below_drew1) | exact HB.out)) hb); have n1_ := Aside0.mk (hbox); have n2_ := Aside0.mk ((by rw [hg]; exact (below_size (by repeat (first | (with_reducible first | exact HB.out | apply below_alloc | apply pw_below_drewN | apply below_drew1) | exact HB.out))) : w.heap.size ≤ gb1)); have n3_ := Aside0.mk ((by rw [hg]; exact (below_size (by repeat (first | (with_reducible first | exact HB.out | apply below_alloc | apply pw_below_drewN | apply below_drew1) | exact HB.out))) : w.heap.size ≤ gb1)); clear HB; have HB := n0_; have BK1 := n1_; have GW1 := n2_; have GE1 := n3_; clear n0_ n1_ n2_ n3_; clear hb hbox hg; have hcz6_0 : w5.cell? ⟨gb1, 0, none⟩ = some (.int .i64 a0_0) := (blk_cell BK1.out 0).trans rfl; have hcz6_1 : w5.cell? ⟨gb1, 1, none⟩ = some (.string a0_1) := (blk_cell BK1.out 1).trans rfl; have hfz6_0 := blk_frozen BK1.out 0; have hfz6_1 := blk_frozen BK1.out 1) | ((with_reducible refine gate_callee (f := 24) rfl ?_); refine goesL_ (some 9) rfl rfl Tryd.func24 (by kernel_rfl) rfl #[.string a0_1] rfl (by (try simp only [List.map_toArray, List.map_cons, List.map_nil]); first | done | rfl | (simp only [List.length_drop, List.length_take]; rfl)) ?_; (with_reducible refine (utf8_ValidString.calls a0_1 true _ ?side1 A3.out).mono ?_); (case side1 => exact Tabs.below HT.out (by repeat (first | (with_reducible first | exact HB.out | apply below_alloc | apply pw_below_drewN | apply below_drew1 | refine below_set ?_ GE1.out) | exact HB.out))); rintro e w7 ⟨rfl, hb⟩; refine ⟨_, rfl, ?_⟩; have n0_ := Aside0.mk (blk_below (g := gb1) (o := .cells #[.int .i64 a0_0, .string a0_1] 71 (0, 0)) (by (with_reducible repeat (first | refine blk_drewN ?_ _ | refine blk_drew ?_ | refine blk_alloc ?_ _)); exact BK1.out) hb); have n1_ := Aside0.mk (below_step (by repeat (first | (with_reducible first | exact HB.out | apply below_alloc | apply pw_below_drewN | apply below_drew1 | refine below_set ?_ GE1.out) | exact HB.out)) hb); clear BK1; clear HB; have BK1 := n0_; have HB := n1_; clear n0_ n1_; (try clear hb); (try clear hb2); (try clear hk); (try clear hi); have hcz8_0 : w7.cell? ⟨gb1, 0, none⟩ = some (.int .i64 a0_0) := (blk_cell BK1.out 0).trans rfl; have hcz8_1 : w7.cell? ⟨gb1, 1, none⟩ = some (.string a0_1) := (blk_cell BK1.out 1).trans rfl; have hfz8_0 := blk_frozen BK1.out 0; have hfz8_1 := blk_frozen BK1.out 1))
      go_ret
      exact ⟨by first | rfl | (simp [errW_none, errW_some] <;> rfl) | (simp [*, errW_none, errW_some] <;> rfl), by repeat (first | (with_reducible first | exact HB.out | apply below_alloc | apply pw_below_drewN | apply below_drew1 | refine below_set ?_ GE1.out) | exact HB.out)⟩
    · replace c4 := Bool.eq_false_iff.mpr c4
      subst c4
      have H1 : (some false) = some r := by rw [if_neg (show ¬ (false = true) by decide)] at H; exact H
      clear H
      have H := H1
      clear H1
      obtain rfl := Option.some.inj H
      go_enter Tryd.func70, Tryd.ntmps70
      go_wp2_with (first | ((with_reducible refine gate_dst (N := 1) rfl ?_); (try (refine gate_guard (by rfl) ?_; dsimp only)); refine box_event ?hg (N := 1) ?hd (cs := #[.int .i64 a0_0, .string a0_1]) (t := 71) ?hr ?_; (case hd => rfl); (case hg => rfl); (case hr => first | (go_simp; done) | (go_simp; rfl)); intro gb1 hg w9 hbox hb; have n0_ := Aside0.mk (below_step (by repeat (first | (with_reducible first | exact HB.out | apply below_alloc | apply pw_below_drewN | apply below_drew1) | exact HB.out)) hb); have n1_ := Aside0.mk (hbox); have n2_ := Aside0.mk ((by rw [hg]; exact (below_size (by repeat (first | (with_reducible first | exact HB.out | apply below_alloc | apply pw_below_drewN | apply below_drew1) | exact HB.out))) : w.heap.size ≤ gb1)); have n3_ := Aside0.mk ((by rw [hg]; exact (below_size (by repeat (first | (with_reducible first | exact HB.out | apply below_alloc | apply pw_below_drewN | apply below_drew1) | exact HB.out))) : w.heap.size ≤ gb1)); clear HB; have HB := n0_; have BK1 := n1_; have GW1 := n2_; have GE1 := n3_; clear n0_ n1_ n2_ n3_; clear hb hbox hg; have hcz10_0 : w9.cell? ⟨gb1, 0, none⟩ = some (.int .i64 a0_0) := (blk_cell BK1.out 0).trans rfl; have hcz10_1 : w9.cell? ⟨gb1, 1, none⟩ = some (.string a0_1) := (blk_cell BK1.out 1).trans rfl; have hfz10_0 := blk_frozen BK1.out 0; have hfz10_1 := blk_frozen BK1.out 1) | ((with_reducible refine gate_callee (f := 24) rfl ?_); refine goesL_ (some 9) rfl rfl Tryd.func24 (by kernel_rfl) rfl #[.string a0_1] rfl (by (try simp only [List.map_toArray, List.map_cons, List.map_nil]); first | done | rfl | (simp only [List.length_drop, List.length_take]; rfl)) ?_; (with_reducible refine (utf8_ValidString.calls a0_1 false _ ?side1 A3.out).mono ?_); (case side1 => exact Tabs.below HT.out (by repeat (first | (with_reducible first | exact HB.out | apply below_alloc | apply pw_below_drewN | apply below_drew1 | refine below_set ?_ GE1.out) | exact HB.out))); rintro e w11 ⟨rfl, hb⟩; refine ⟨_, rfl, ?_⟩; have n0_ := Aside0.mk (blk_below (g := gb1) (o := .cells #[.int .i64 a0_0, .string a0_1] 71 (0, 0)) (by (with_reducible repeat (first | refine blk_drewN ?_ _ | refine blk_drew ?_ | refine blk_alloc ?_ _)); exact BK1.out) hb); have n1_ := Aside0.mk (below_step (by repeat (first | (with_reducible first | exact HB.out | apply below_alloc | apply pw_below_drewN | apply below_drew1 | refine below_set ?_ GE1.out) | exact HB.out)) hb); clear BK1; clear HB; have BK1 := n0_; have HB := n1_; clear n0_ n1_; (try clear hb); (try clear hb2); (try clear hk); (try clear hi)))
      go_ret
      exact ⟨by first | rfl | (simp [errW_none, errW_some] <;> rfl) | (simp [*, errW_none, errW_some] <;> rfl), by repeat (first | (with_reducible first | exact HB.out | apply below_alloc | apply pw_below_drewN | apply below_drew1 | refine below_set ?_ GE1.out) | exact HB.out)⟩
  · rw [if_neg c2] at H
    have c2b0 : (a0_0 == 0) = false := beq_eq_false_iff_ne.mpr c2
    have c2b1 : (a0_0 != 0) = true := bne_iff_ne.mpr c2
    by_cases c12 : a0_0 = 1
    · rw [if_pos c12] at H
      have c12b0 : (a0_0 == 1) = true := beq_iff_eq.mpr c12
      have c12b1 : (a0_0 != 1) = false := bne_eq_false_iff_eq.mpr c12
      clear c12
      obtain rfl := Option.some.inj H
      go_enter Tryd.func70, Tryd.ntmps70
      go_wp2_with (first | ((with_reducible refine gate_dst (N := 1) rfl ?_); (try (refine gate_guard (by rfl) ?_; dsimp only)); refine box_event ?hg (N := 1) ?hd (cs := #[.int .i64 a0_0, .string a0_1]) (t := 71) ?hr ?_; (case hd => rfl); (case hg => rfl); (case hr => first | (go_simp; done) | (go_simp; rfl)); intro gb1 hg w13 hbox hb; have n0_ := Aside0.mk (below_step (by repeat (first | (with_reducible first | exact HB.out | apply below_alloc | apply pw_below_drewN | apply below_drew1) | exact HB.out)) hb); have n1_ := Aside0.mk (hbox); have n2_ := Aside0.mk ((by rw [hg]; exact (below_size (by repeat (first | (with_reducible first | exact HB.out | apply below_alloc | apply pw_below_drewN | apply below_drew1) | exact HB.out))) : w.heap.size ≤ gb1)); have n3_ := Aside0.mk ((by rw [hg]; exact (below_size (by repeat (first | (with_reducible first | exact HB.out | apply below_alloc | apply pw_below_drewN | apply below_drew1) | exact HB.out))) : w.heap.size ≤ gb1)); clear HB; have HB := n0_; have BK1 := n1_; have GW1 := n2_; have GE1 := n3_; clear n0_ n1_ n2_ n3_; clear hb hbox hg; have hcz14_0 : w13.cell? ⟨gb1, 0, none⟩ = some (.int .i64 a0_0) := (blk_cell BK1.out 0).trans rfl; have hcz14_1 : w13.cell? ⟨gb1, 1, none⟩ = some (.string a0_1) := (blk_cell BK1.out 1).trans rfl; have hfz14_0 := blk_frozen BK1.out 0; have hfz14_1 := blk_frozen BK1.out 1))
      go_ret
      exact ⟨by first | rfl | (simp [errW_none, errW_some] <;> rfl) | (simp [*, errW_none, errW_some] <;> rfl), by repeat (first | (with_reducible first | exact HB.out | apply below_alloc | apply pw_below_drewN | apply below_drew1 | refine below_set ?_ GE1.out) | exact HB.out)⟩
    · rw [if_neg c12] at H
      have c12b0 : (a0_0 == 1) = false := beq_eq_false_iff_ne.mpr c12
      have c12b1 : (a0_0 != 1) = true := bne_iff_ne.mpr c12
      by_cases c15 : a0_0 = 2
      · rw [if_pos c15] at H
        have c15b0 : (a0_0 == 2) = true := beq_iff_eq.mpr c15
        have c15b1 : (a0_0 != 2) = false := bne_eq_false_iff_eq.mpr c15
        clear c15
        obtain rfl := Option.some.inj H
        go_enter Tryd.func70, Tryd.ntmps70
        go_wp2_with (first | ((with_reducible refine gate_dst (N := 1) rfl ?_); (try (refine gate_guard (by rfl) ?_; dsimp only)); refine box_event ?hg (N := 1) ?hd (cs := #[.int .i64 a0_0, .string a0_1]) (t := 71) ?hr ?_; (case hd => rfl); (case hg => rfl); (case hr => first | (go_simp; done) | (go_simp; rfl)); intro gb1 hg w16 hbox hb; have n0_ := Aside0.mk (below_step (by repeat (first | (with_reducible first | exact HB.out | apply below_alloc | apply pw_below_drewN | apply below_drew1) | exact HB.out)) hb); have n1_ := Aside0.mk (hbox); have n2_ := Aside0.mk ((by rw [hg]; exact (below_size (by repeat (first | (with_reducible first | exact HB.out | apply below_alloc | apply pw_below_drewN | apply below_drew1) | exact HB.out))) : w.heap.size ≤ gb1)); have n3_ := Aside0.mk ((by rw [hg]; exact (below_size (by repeat (first | (with_reducible first | exact HB.out | apply below_alloc | apply pw_below_drewN | apply below_drew1) | exact HB.out))) : w.heap.size ≤ gb1)); clear HB; have HB := n0_; have BK1 := n1_; have GW1 := n2_; have GE1 := n3_; clear n0_ n1_ n2_ n3_; clear hb hbox hg; have hcz17_0 : w16.cell? ⟨gb1, 0, none⟩ = some (.int .i64 a0_0) := (blk_cell BK1.out 0).trans rfl; have hcz17_1 : w16.cell? ⟨gb1, 1, none⟩ = some (.string a0_1) := (blk_cell BK1.out 1).trans rfl; have hfz17_0 := blk_frozen BK1.out 0; have hfz17_1 := blk_frozen BK1.out 1))
        go_ret
        exact ⟨by first | rfl | (simp [errW_none, errW_some] <;> rfl) | (simp [*, errW_none, errW_some] <;> rfl), by repeat (first | (with_reducible first | exact HB.out | apply below_alloc | apply pw_below_drewN | apply below_drew1 | refine below_set ?_ GE1.out) | exact HB.out)⟩
      · rw [if_neg c15] at H
        have c15b0 : (a0_0 == 2) = false := beq_eq_false_iff_ne.mpr c15
        have c15b1 : (a0_0 != 2) = true := bne_iff_ne.mpr c15
        obtain rfl := Option.some.inj H
        go_enter Tryd.func70, Tryd.ntmps70
        go_wp2_with (first | ((with_reducible refine gate_dst (N := 1) rfl ?_); (try (refine gate_guard (by rfl) ?_; dsimp only)); refine box_event ?hg (N := 1) ?hd (cs := #[.int .i64 a0_0, .string a0_1]) (t := 71) ?hr ?_; (case hd => rfl); (case hg => rfl); (case hr => first | (go_simp; done) | (go_simp; rfl)); intro gb1 hg w18 hbox hb; have n0_ := Aside0.mk (below_step (by repeat (first | (with_reducible first | exact HB.out | apply below_alloc | apply pw_below_drewN | apply below_drew1) | exact HB.out)) hb); have n1_ := Aside0.mk (hbox); have n2_ := Aside0.mk ((by rw [hg]; exact (below_size (by repeat (first | (with_reducible first | exact HB.out | apply below_alloc | apply pw_below_drewN | apply below_drew1) | exact HB.out))) : w.heap.size ≤ gb1)); have n3_ := Aside0.mk ((by rw [hg]; exact (below_size (by repeat (first | (with_reducible first | exact HB.out | apply below_alloc | apply pw_below_drewN | apply below_drew1) | exact HB.out))) : w.heap.size ≤ gb1)); clear HB; have HB := n0_; have BK1 := n1_; have GW1 := n2_; have GE1 := n3_; clear n0_ n1_ n2_ n3_; clear hb hbox hg; have hcz19_0 : w18.cell? ⟨gb1, 0, none⟩ = some (.int .i64 a0_0) := (blk_cell BK1.out 0).trans rfl; have hcz19_1 : w18.cell? ⟨gb1, 1, none⟩ = some (.string a0_1) := (blk_cell BK1.out 1).trans rfl; have hfz19_0 := blk_frozen BK1.out 0; have hfz19_1 := blk_frozen BK1.out 1))
        go_ret
        exact ⟨by first | rfl | (simp [errW_none, errW_some] <;> rfl) | (simp [*, errW_none, errW_some] <;> rfl), by repeat (first | (with_reducible first | exact HB.out | apply below_alloc | apply pw_below_drewN | apply below_drew1 | refine below_set ?_ GE1.out) | exact HB.out)⟩
end Go.Proofs.YtpbkdeelkpjccaaDoor.G

namespace Go.Proofs.YtpbkdeelkpjccaaDoor.G
open Go.RowKit Go.Proofs.YtpbkdeelkpjccaaDoorW.PrintWords
set_option linter.unusedVariables false
set_option linter.unusedSimpArgs false
def partB (x : S71) : Bool :=
  if x.f0 = 0 then validB x.f1 && decide (x.f1.size ≤ 100) else if x.f0 = 1 then x.f1.toList == [] else if x.f0 = 2 then x.f1.toList == [] else false
theorem partB_f (x : S71) (h : x.f1.size ≤ 9223372036854775807) : path_Part_right.f x.f0 x.f1 = some (partB x) := by
  unfold path_Part_right.f partB
  unfold utf8_ValidString.f
  rw [if_pos h]
  simp only [Option.bind_some]
  by_cases h0 : x.f0 = 0
  · rw [if_pos h0, if_pos h0]
    cases validB x.f1
    · simp
    · simp only [if_true, Bool.true_and]
      congr 1
      rw [Bool.eq_iff_iff]; simp; omega
  · rw [if_neg h0, if_neg h0]
    by_cases h1 : x.f0 = 1
    · rw [if_pos h1, if_pos h1]
    · rw [if_neg h1, if_neg h1]
      by_cases h2 : x.f0 = 2
      · rw [if_pos h2, if_pos h2]
      · rw [if_neg h2, if_neg h2]
set_option maxHeartbeats 1000000 in
theorem pathRight1 (xs : List S71) (hx : ∀ x ∈ xs, x.f1.size ≤ 9223372036854775807) (w : World) (hT : Tabs w) :
    TellsK Tryd.prog 69 #[] k71 z71 xs (fun j => !partB (xs.getD j z71)) w := by
  intro j W cs hj hb hK
  have hs : (xs.getD j z71).f1.size ≤ 9223372036854775807 := hx _ (by rw [getD_lt _ _ hj]; exact List.getElem_mem hj)
  dsimp only
  generalize xs.getD j z71 = x at hK hs ⊢
  obtain rfl := k71_open hK
  have hcall := fun W' hT' => path_Part_right.calls x.f0 x.f1 _ W' hT' (partB_f x hs)
  generalize partB x = b at hcall ⊢
  have HT := Aside0.mk (hT.below hb)
  clear hT hK hx hs
  show Calls _ _ #[.agg #[.int .i64 x.f0, .string x.f1]] _ _
  generalize x.f0 = a at hcall ⊢
  generalize x.f1 = s at hcall ⊢
  have hu := Tryd.underlying71
  go_enter Tryd.func69, Tryd.ntmps69
  go_wp2_with (go_at_call 70; refine (hcall _ (HT.out.below (below_alloc (Below.refl _ _) _))).mono ?_; rintro e w' ⟨rfl, hb'⟩)
  go_ret
  exact ⟨rfl, below_then (below_alloc (Below.refl _ _) _) (by simp) hb'⟩
def pathB (p : List S71) : Bool := decide (p.length ≤ 20) && p.all partB
theorem any_not_all {α : Type} (p : α → Bool) (xs : List α) (z : α) : (List.range xs.length).any (fun j => !p (xs.getD j z)) = !xs.all p := by
  rw [Bool.eq_iff_iff, List.any_eq_true, Bool.not_eq_true', List.all_eq_false]
  constructor
  · rintro ⟨j, hj, h⟩
    have hj := List.mem_range.1 hj
    rw [getD_lt _ _ hj] at h
    exact ⟨_, List.getElem_mem hj, by simpa using h⟩
  · rintro ⟨x, hx, h⟩
    obtain ⟨j, hj, rfl⟩ := List.getElem_of_mem hx
    exact ⟨j, List.mem_range.2 hj, by rw [getD_lt _ _ hj]; simpa using h⟩
set_option maxHeartbeats 1000000 in
theorem pathRight_any (A : Option Addr) (c : Nat) (p : List S71) (w : World) (hT : Tabs w) (hr : Kd.C k71 w A p.length p) (hx : ∀ x ∈ p, x.f1.size ≤ 9223372036854775807) :
    Calls Tryd.prog 47 #[.slice A p.length c] w fun e w' => e = .returned (.bool (pathB p)) ∧ Below w.heap.size w w' := by
  have hcall := ContainsFunc_Part 69 #[] (enters_of Tryd.func69 (by kernel_rfl) rfl) A c p _ w hr (pathRight1 p hx w hT)
  rw [any_not_all partB p z71] at hcall
  unfold pathB
  have hmax : p.length ≤ 9223372036854775807 := hr.2.1
  clear hr hx hT
  generalize p.all partB = b at hcall ⊢
  by_cases hl : p.length ≤ 20
  · have hd : decide (p.length ≤ 20) = true := decide_eq_true hl
    rw [hd]
    go_enter Tryd.func47, Tryd.ntmps47
    go_wp2_with (go_at_call 68; refine hcall.mono ?_; rintro e w' ⟨rfl, hb'⟩)
    go_ret
    exact ⟨by simp, hb'⟩
  · have hd : decide (p.length ≤ 20) = false := decide_eq_false hl
    rw [hd]
    go_enter Tryd.func47, Tryd.ntmps47
    go_wp2
    go_ret
    exact ⟨rfl, Below.refl _ _⟩
def fitP (p : List S71) : Bool := p.all fun x => decide (x.f1.size ≤ 9223372036854775807)
def path_Right.f (l0 : List S71) : Option Bool := if fitP l0 = true then some (pathB l0) else none
theorem path_Right.calls (A0 : Option Addr) (c0 : Nat) (l0 : List S71) (r : Bool) (w : World) (hT : Tabs w) (hr0 : Kd.C k71 w A0 l0.length l0) (hc0 : l0.length ≤ c0) (h : path_Right.f l0 = some r) :
    Calls Tryd.prog 47 #[.slice A0 l0.length c0] w fun e w' => e = .returned (.bool r) ∧ Below w.heap.size w w' := by
  unfold path_Right.f at h
  split at h
  · rename_i hs; obtain rfl := Option.some.inj h
    exact pathRight_any A0 c0 l0 w hT hr0 (fun x hx => by have := List.all_eq_true.1 hs x hx; simpa using this)
  · cases h
end Go.Proofs.YtpbkdeelkpjccaaDoor.G

namespace Go.Proofs.YtpbkdeelkpjccaaDoor.G
open Go.RowKit Go.Proofs.YtpbkdeelkpjccaaDoorW.PrintWords Go.Maps
set_option linter.unusedVariables false
set_option linter.unusedSimpArgs false
def graphB (g : List S34) : Bool := decide (1 ≤ g.length) && decide (g.length ≤ 2000) && g.all (nodeB g) && !twiceB g
theorem graphRight1 (g : List S34) (A : Option Addr) (c : Nat) (w : World) (hT : Tabs w) (hr : Kd.C k34 w A g.length g) (hc : g.length ≤ c) (hfit : fitG g) (B : Nat) (hB : w.cell? ⟨B, 0, none⟩ = some (.slice A g.length c)) :
    TellsK Tryd.prog 28 #[.pointer (some ⟨B, 0, none⟩)] k34 z34 g (fun j => !nodeB g (g.getD j z34)) w := by
  intro j W cs hj hb hk
  show Calls _ _ _ W fun e w' => e = .returned (.bool (!nodeB g (g.getD j z34))) ∧ Below W.heap.size W w'
  have hx : fitN (g.getD j z34) := hfit _ (by rw [getD_lt _ _ hj]; exact List.getElem_mem _)
  generalize g.getD j z34 = x at hk hx ⊢
  obtain ⟨A3, c3, rfl, l3, g3⟩ := k34_open hk
  have hB0 := pw_cell_below hb hB
  have hB1 := pw_cell_below (below_alloc (Below.refl W.heap.size W) (.cells #[.int .i64 x.f0, .string x.f1, .string x.f2, .slice A3 x.f3.length c3] 34)) hB0
  have hRat : ∀ W2, Below W.heap.size W W2 → RightAt g A c x A3 c3 W2 := fun W2 h2 => ⟨(hT.below hb).below h2, Kd.C_below (Kd.C_below hr hb) h2, hc, Kd.C_below (Kd.C_below g3 hb) h2, l3, hx⟩
  have hcall := fun W2 h2 => right_any g A c x A3 c3 W2 (hRat W2 h2)
  generalize nodeB g x = b at hcall ⊢
  have HC := Aside0.mk hcall
  clear hcall hRat hr hT hfit hk g3 hB hj hb
  generalize g.length = n at *
  go_enter Tryd.func28, Tryd.ntmps28
  go_wp2_with (go_at_call 29; refine (HC.out _ ?hb).mono ?_; (case hb => exact below_alloc (Below.refl _ _) _); rintro e w' ⟨rfl, hb'⟩)
  go_ret
  exact ⟨rfl, below_then (below_alloc (Below.refl _ _) _) (by simp) hb'⟩
set_option maxHeartbeats 1000000 in
theorem graphRight_any (g : List S34) (A : Option Addr) (c : Nat) (w : World) (hT : Tabs w) (hr : Kd.C k34 w A g.length g) (hc : g.length ≤ c) (hfit : fitG g) :
    Calls Tryd.prog 13 #[.slice A g.length c] w fun e w' => e = .returned (.bool (graphB g)) ∧ Below w.heap.size w w' := by
  have hb0 : Below w.heap.size w (w.alloc (.cells #[.slice A g.length c] 29)) := below_alloc (Below.refl _ _) _
  have hcB : (w.alloc (.cells #[.slice A g.length c] 29)).cell? ⟨w.heap.size, 0, none⟩ = some (.slice A g.length c) := by simp [World.cell?_alloc_at]
  have h1 := ContainsFunc_Node 28 #[.pointer (some ⟨w.heap.size, 0, none⟩)] (enters_of Tryd.func28 (by kernel_rfl) rfl) A c g _ _ (Kd.C_below hr hb0)
    (graphRight1 g A c _ (hT.below hb0) (Kd.C_below hr hb0) hc hfit w.heap.size hcB)
  rw [any_range (fun x => !nodeB g x) g (fun j => g.getD j z34) (fun j hj => getD_lt _ _ hj)] at h1
  have h2 := fun W hb => twice_any g A c W (Kd.C_below hr hb) hc hfit
  have hmax : g.length ≤ 9223372036854775807 := hr.2.1
  have hall : (g.any fun x => !nodeB g x) = !(g.all (nodeB g)) := by rw [List.not_all_eq_any_not]
  rw [hall] at h1
  unfold graphB
  generalize g.all (nodeB g) = b1 at h1 ⊢
  generalize twiceB g = b2 at h2 ⊢
  have H2 := Aside0.mk h2
  clear h2 hr hT hfit hall hc hb0 hcB
  generalize g.length = n at *
  by_cases c1 : n < 1
  · have d1 : decide ((n : Int) < 1) = true := decide_eq_true (by omega)
    have e1 : decide (1 ≤ n) = false := decide_eq_false (by omega)
    rw [e1]
    clear e1
    go_enter Tryd.func13, Tryd.ntmps13
    go_wp2
    go_ret
    exact ⟨rfl, below_alloc (Below.refl _ _) _⟩
  · have d1 : decide ((n : Int) < 1) = false := decide_eq_false (by omega)
    have e1 : decide (1 ≤ n) = true := decide_eq_true (by omega)
    rw [e1]
    clear e1
    by_cases c2 : 2000 < n
    · have d2 : decide ((2000 : Int) < (n : Int)) = true := decide_eq_true (by omega)
      have e2 : decide (n ≤ 2000) = false := decide_eq_false (by omega)
      rw [e2]
      clear e2
      go_enter Tryd.func13, Tryd.ntmps13
      go_wp2
      go_ret
      exact ⟨rfl, below_alloc (Below.refl _ _) _⟩
    · have d2 : decide ((2000 : Int) < (n : Int)) = false := decide_eq_false (by omega)
      have e2 : decide (n ≤ 2000) = true := decide_eq_true (by omega)
      rw [e2]
      clear e2
      cases b1 with
      | false =>
        go_enter Tryd.func13, Tryd.ntmps13
        go_wp2_with (go_at_call 30; refine h1.mono ?_; rintro e w1 ⟨rfl, hb1⟩)
        go_ret
        exact ⟨rfl, below_then (below_alloc (Below.refl _ _) _) (by simp) hb1⟩
      | true =>
        go_enter Tryd.func13, Tryd.ntmps13
        go_wp2_with (first | (go_at_call 30; refine h1.mono ?_; rintro e w1 ⟨rfl, hb1⟩; clear h1; obtain ⟨hc1, hf1⟩ := bcell hb1; have hz1 : w.heap.size < w1.heap.size := (by have := hb1.size; simp at this; omega)) | (go_at_call 31; refine (H2.out _ ?hb).mono ?_; (case hb => exact below_then (below_alloc (Below.refl _ _) _) (by simp) hb1); rintro e w2 ⟨rfl, hb2⟩))
        go_ret
        exact ⟨by simp, below_then (below_then (below_alloc (Below.refl _ _) _) (by simp) hb1) (below_then (below_alloc (Below.refl _ _) _) (by simp) hb1).size hb2⟩
def fitGB (g : List S34) : Bool := g.all fun x => decide (x.f1.size ≤ 140737488355328) && decide (x.f2.size ≤ 140737488355328) && decide (x.f3.length ≤ 17592186044416)
theorem fitG_of {g : List S34} (h : fitGB g = true) : fitG g := fun x hx => by
  have := List.all_eq_true.1 h x hx
  simp only [Bool.and_eq_true, decide_eq_true_eq] at this
  exact ⟨this.1.1, this.1.2, this.2⟩
def arena_Right.f (l0 : List S34) : Option Bool := if fitGB l0 = true then some (graphB l0) else none
theorem arena_Right.calls (A0 : Option Addr) (c0 : Nat) (l0 : List S34) (r : Bool) (w : World) (hT : Tabs w) (hr0 : Kd.C k34 w A0 l0.length l0) (hc0 : l0.length ≤ c0) (h : arena_Right.f l0 = some r) :
    Calls Tryd.prog 13 #[.slice A0 l0.length c0] w fun e w' => e = .returned (.bool r) ∧ Below w.heap.size w w' := by
  unfold arena_Right.f at h
  split at h
  · rename_i hs; obtain rfl := Option.some.inj h
    exact graphRight_any l0 A0 c0 w hT hr0 hc0 (fitG_of hs)
  · cases h
end Go.Proofs.YtpbkdeelkpjccaaDoor.G

namespace Go.Proofs.YtpbkdeelkpjccaaDoor.G
open Go.RowKit Go.Proofs.YtpbkdeelkpjccaaDoorW.PrintWords
set_option linter.unusedVariables false
set_option linter.unusedSimpArgs false
def visit (g : List S34) : Nat → Int → List Int × List Int → List Int × List Int
  | 0, i, s => (s.1.set i.toNat (rd s.1 i + 1), s.2)
  | f + 1, i, s => if rd s.1 i + 1 > 1 then (s.1.set i.toNat (rd s.1 i + 1), s.2)
    else (rd_T34 g i).f3.foldl (fun s k => visit g f k s) (s.1.set i.toNat (rd s.1 i + 1), s.2 ++ [i])
def pot : List S34 → List Int → Nat
  | x :: g, m :: met => (if m = 0 then x.f3.length + 1 else 0) + pot g met
  | _, _ => 0
def zeros : List Int → Nat
  | [] => 0
  | m :: met => (if m = 0 then 1 else 0) + zeros met
theorem pot_set0 : ∀ (g : List S34) (met : List Int) (i : Nat) (v : Int), i < g.length → i < met.length → met.getD i 0 = 0 → v ≠ 0 → pot g (met.set i v) + ((g.getD i z34).f3.length + 1) = pot g met
  | [], met, i, v, h, _, _, _ => absurd h (Nat.not_lt_zero _)
  | x :: g, [], i, v, _, h, _, _ => absurd h (Nat.not_lt_zero _)
  | x :: g, m :: met, 0, v, _, _, h0, hv => by
    simp only [List.getD_cons_zero] at h0
    simp [pot, hv, h0]; omega
  | x :: g, m :: met, i + 1, v, h1, h2, h0, hv => by
    simp only [List.getD_cons_succ] at h0
    have := pot_set0 g met i v (by simpa using h1) (by simpa using h2) h0 hv
    simp only [List.set_cons_succ, pot, List.getD_cons_succ]; omega
theorem pot_set1 : ∀ (g : List S34) (met : List Int) (i : Nat) (v : Int), met.getD i 0 ≠ 0 → v ≠ 0 → pot g (met.set i v) = pot g met
  | [], met, i, v, _, _ => by cases met <;> simp [pot]
  | x :: g, [], i, v, _, _ => by simp
  | x :: g, m :: met, 0, v, h0, hv => by
    simp only [List.getD_cons_zero] at h0
    simp [pot, hv, h0]
  | x :: g, m :: met, i + 1, v, h0, hv => by
    simp only [List.getD_cons_succ] at h0
    have := pot_set1 g met i v h0 hv
    simp only [List.set_cons_succ, pot]; omega
theorem zeros_set0 : ∀ (met : List Int) (i : Nat) (v : Int), i < met.length → met.getD i 0 = 0 → v ≠ 0 → zeros (met.set i v) + 1 = zeros met
  | [], i, v, h, _, _ => absurd h (Nat.not_lt_zero _)
  | m :: met, 0, v, _, h0, hv => by
    simp only [List.getD_cons_zero] at h0
    simp [zeros, hv, h0]; omega
  | m :: met, i + 1, v, h2, h0, hv => by
    simp only [List.getD_cons_succ] at h0
    have := zeros_set0 met i v (by simpa using h2) h0 hv
    simp only [List.set_cons_succ, zeros]; omega
theorem zeros_set1 : ∀ (met : List Int) (i : Nat) (v : Int), met.getD i 0 ≠ 0 → v ≠ 0 → zeros (met.set i v) = zeros met
  | [], i, v, _, _ => by simp
  | m :: met, 0, v, h0, hv => by
    simp only [List.getD_cons_zero] at h0
    simp [zeros, hv, h0]
  | m :: met, i + 1, v, h0, hv => by
    simp only [List.getD_cons_succ] at h0
    have := zeros_set1 met i v h0 hv
    simp only [List.set_cons_succ, zeros]; omega
theorem pot_unmet : ∀ (g : List S34) (met : List Int) (i : Nat), i < g.length → i < met.length → met.getD i 0 = 0 → 0 < pot g met
  | [], met, i, h, _, _ => absurd h (Nat.not_lt_zero _)
  | x :: g, [], i, _, h, _ => absurd h (Nat.not_lt_zero _)
  | x :: g, m :: met, 0, _, _, h0 => by
    simp only [List.getD_cons_zero] at h0
    simp [pot, h0]; omega
  | x :: g, m :: met, i + 1, h1, h2, h0 => by
    simp only [List.getD_cons_succ] at h0
    have := pot_unmet g met i (by simpa using h1) (by simpa using h2) h0
    simp only [pot]; omega
theorem zeros_replicate (n : Nat) : zeros (List.replicate n 0) = n := by
  induction n with
  | zero => rfl
  | succ n ih => simp [List.replicate_succ, zeros, ih]; omega
theorem pot_replicate (K : Nat) : ∀ (g : List S34), (∀ x ∈ g, x.f3.length ≤ K) → pot g (List.replicate g.length 0) ≤ g.length * (K + 1)
  | [], _ => by simp [pot]
  | x :: g, h => by
    have h1 := h x (by simp)
    have h2 := pot_replicate K g (fun y hy => h y (by simp [hy]))
    simp only [List.length_cons, List.replicate_succ, pot, if_true, Nat.add_mul]
    omega
structure MetAt (g : List S34) (bd : Nat) (s : List Int × List Int) : Prop where
  len : s.1.length = g.length
  le : ∀ m ∈ s.1, 0 ≤ m ∧ m ≤ (bd : Int)
  out : s.2.length + zeros s.1 = g.length
theorem MetAt.at {g : List S34} {bd : Nat} {s : List Int × List Int} (h : MetAt g bd s) (i : Int) (h0 : 0 ≤ i) (h1 : i < (g.length : Int)) : 0 ≤ rd s.1 i ∧ rd s.1 i ≤ (bd : Int) ∧ rd s.1 i = s.1.getD i.toNat 0 := by
  have hl : i.toNat < s.1.length := by have := h.len; omega
  have e : rd s.1 i = s.1[i.toNat] := by unfold rd; rw [getD_lt _ _ hl]
  have := h.le _ (List.getElem_mem hl)
  rw [← e] at this
  exact ⟨this.1, this.2, rfl⟩
theorem MetAt.seen {g : List S34} {bd : Nat} {s : List Int × List Int} (h : MetAt g bd s) (i : Int) (h0 : 0 ≤ i) (h1 : i < (g.length : Int)) (hi : rd s.1 i + 1 > 1) :
    MetAt g (bd + 1) (s.1.set i.toNat (rd s.1 i + 1), s.2) ∧ pot g (s.1.set i.toNat (rd s.1 i + 1)) = pot g s.1 := by
  obtain ⟨a1, a2, a3⟩ := h.at i h0 h1
  refine ⟨⟨by simp [h.len], fun m hm => ?_, ?_⟩, pot_set1 _ _ _ _ (by omega) (by omega)⟩
  · rcases List.mem_or_eq_of_mem_set hm with hm | rfl
    · have := h.le m hm; omega
    · omega
  · show s.2.length + zeros (s.1.set i.toNat _) = _
    rw [zeros_set1 _ _ _ (by omega) (by omega)]; exact h.out
theorem MetAt.first {g : List S34} {bd : Nat} {s : List Int × List Int} (h : MetAt g bd s) (i : Int) (h0 : 0 ≤ i) (h1 : i < (g.length : Int)) (hi : rd s.1 i = 0) :
    MetAt g (bd + 1) (s.1.set i.toNat (rd s.1 i + 1), s.2 ++ [i]) ∧ pot g (s.1.set i.toNat (rd s.1 i + 1)) + ((rd_T34 g i).f3.length + 1) = pot g s.1 := by
  obtain ⟨a1, a2, a3⟩ := h.at i h0 h1
  have hl : i.toNat < s.1.length := by have := h.len; omega
  refine ⟨⟨by simp [h.len], fun m hm => ?_, ?_⟩, pot_set0 _ _ _ _ (by omega) hl (by omega) (by omega)⟩
  · rcases List.mem_or_eq_of_mem_set hm with hm | rfl
    · have := h.le m hm; omega
    · omega
  · show (s.2 ++ [i]).length + zeros (s.1.set i.toNat _) = _
    have := zeros_set0 s.1 i.toNat (rd s.1 i + 1) hl (by omega) (by omega)
    have := h.out
    simp only [List.length_append, List.length_cons, List.length_nil]; omega
theorem visit_seen (g : List S34) (f : Nat) (i : Int) (s : List Int × List Int) (hi : rd s.1 i + 1 > 1) : visit g f i s = (s.1.set i.toNat (rd s.1 i + 1), s.2) := by
  cases f with
  | zero => rfl
  | succ f => unfold visit; rw [if_pos hi]
theorem visit_first (g : List S34) (f : Nat) (i : Int) (s : List Int × List Int) (hi : rd s.1 i = 0) : visit g (f + 1) i s = (rd_T34 g i).f3.foldl (fun s k => visit g f k s) (s.1.set i.toNat (rd s.1 i + 1), s.2 ++ [i]) := by
  rw [visit, if_neg (by omega)]
def orderL (g : List S34) : List Int := (visit g (pot g (List.replicate g.length 0)) 0 (List.replicate g.length 0, [])).2
end Go.Proofs.YtpbkdeelkpjccaaDoor.G
