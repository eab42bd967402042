/- Merged by merge.py out of: GnfaMake, Hlen. -/
import Derived.Test.YtpbkdeelkpjccaaDoorM03
import Derived.Test.YtpbkdeelkpjccaaDoorM20
import Derived.Test.YtpbkdeelkpjccaaDoorM15
import Derived.Test.YtpbkdeelkpjccaaDoorM05
-- Laid by xprint.py (this work's own driver of the kit's printer).
namespace Go.Proofs.YtpbkdeelkpjccaaDoor.G
open Go.RowKit Go.Proofs.YtpbkdeelkpjccaaDoorW.PrintWords Go.Proofs.YtpbkdeelkpjccaaDoorW.PrintLast Go.Proofs.YtpbkdeelkpjccaaDoorW.PrintMore
attribute [local go_sem] max2_int min2_int max_two min_two max_three min_three max_four min_four   -- for this text's walks alone
set_option linter.unusedVariables false
set_option linter.unusedSimpArgs false
mutual
def nfa_Make.l0 : Nat → List (List (S71)) → List (List (S71)) → Int → Int → List (List (S71)) → List Int → Int → Option ((List (List (S71))) × List Int × Int × Int)
  | 0, _, _, _, _, _, _, _ => none
  | k + 1, x0, x8, x9, x10, x2000, x2001, x2002 => if x10 < x9 then (if 0 ≤ x10 then (if x10 < (x8.length : Int) then ((path_Right.f (rd_L7 x8 x10)).bind fun t3 => (if t3 = true then (nfa_Make.l0 k x0 x8 x9 (wrap64 (x10 + 1)) x2000 x2001 x2002) else (some (([] : List (List (S71))), ([] : List Int), 0, 5)))) else (none)) else (none)) else (nfa_Make.l1 k x0 (x0.length : Int) 0 x2000 x2001 x2002)
def nfa_Make.l1 : Nat → List (List (S71)) → Int → Int → List (List (S71)) → List Int → Int → Option ((List (List (S71))) × List Int × Int × Int)
  | 0, _, _, _, _, _, _ => none
  | k + 1, x19, x20, x21, x2000, x2001, x2002 => if x21 < x20 then (if 0 ≤ x21 then (if x21 < (x19.length : Int) then ((clonePart.f (rd_L7 x19 x21)).bind fun t5 => (if x2000.length < 5864062014805 then (if x2001.length < 17592186044416 then (nfa_Make.l1 k x19 x20 (wrap64 (x21 + 1)) (x2000 ++ [t5]) (x2001 ++ [x2002]) (wrap64 (x2002 + (wrap64 (((rd_L7 x19 x21).length : Int) + 1))))) else (none)) else (none))) else (none)) else (none)) else (if x2002 > 512 then (some (([] : List (List (S71))), ([] : List Int), 0, 4)) else (some (x2000, x2001, x2002, 0)))
end
def nfa_Make.f (k : Nat) (l0 : List (List (S71))) : Option ((List (List (S71))) × List Int × Int × Int) := nfa_Make.l0 k l0 l0 (l0.length : Int) 0 ([] : List (List (S71))) ([] : List Int) 0
theorem nfa_Make.mono_l : ∀ k, (∀ y0 y1 y2 y3 y4 y5 y6, LeO (nfa_Make.l0 k y0 y1 y2 y3 y4 y5 y6) (nfa_Make.l0 (k + 1) y0 y1 y2 y3 y4 y5 y6)) ∧ (∀ y0 y1 y2 y3 y4 y5, LeO (nfa_Make.l1 k y0 y1 y2 y3 y4 y5) (nfa_Make.l1 (k + 1) y0 y1 y2 y3 y4 y5))
  | 0 => ⟨fun _ _ _ _ _ _ _ r h => by simp [nfa_Make.l0] at h, fun _ _ _ _ _ _ r h => by simp [nfa_Make.l1] at h⟩
  | k + 1 => by
    obtain ⟨ih0, ih1⟩ := nfa_Make.mono_l k
    refine ⟨?_, ?_⟩
    · intro y0 y1 y2 y3 y4 y5 y6
      unfold nfa_Make.l0
      repeat' first
      | (with_reducible exact ih0 _ _ _ _ _ _ _)
      | (with_reducible exact ih1 _ _ _ _ _ _)
      | (with_reducible exact LeO.refl _)
      | (with_reducible exact LeO.none _)
      | (with_reducible refine LeO.ite ?_ ?_)
      | (with_reducible refine LeO.bind ?_ (fun _ => ?_))
      | exact ih0 _ _ _ _ _ _ _
      | exact ih1 _ _ _ _ _ _
      | exact LeO.none _
      | refine LeO.ite ?_ ?_
      | refine LeO.bind ?_ (fun _ => ?_)
    · intro y0 y1 y2 y3 y4 y5
      unfold nfa_Make.l1
      repeat' first
      | (with_reducible exact ih0 _ _ _ _ _ _ _)
      | (with_reducible exact ih1 _ _ _ _ _ _)
      | (with_reducible exact LeO.refl _)
      | (with_reducible exact LeO.none _)
      | (with_reducible refine LeO.ite ?_ ?_)
      | (with_reducible refine LeO.bind ?_ (fun _ => ?_))
      | exact ih0 _ _ _ _ _ _ _
      | exact ih1 _ _ _ _ _ _
      | exact LeO.none _
      | refine LeO.ite ?_ ?_
      | refine LeO.bind ?_ (fun _ => ?_)
theorem nfa_Make.mono : ∀ a0 k, LeO (nfa_Make.f k a0) (nfa_Make.f (k + 1) a0) := by
  intro a0 k
  obtain ⟨ih0, ih1⟩ := nfa_Make.mono_l k
  unfold nfa_Make.f
  repeat' first
      | (with_reducible exact ih0 _ _ _ _ _ _ _)
      | (with_reducible exact ih1 _ _ _ _ _ _)
      | (with_reducible exact LeO.refl _)
      | (with_reducible exact LeO.none _)
      | (with_reducible refine LeO.ite ?_ ?_)
      | (with_reducible refine LeO.bind ?_ (fun _ => ?_))
      | exact ih0 _ _ _ _ _ _ _
      | exact ih1 _ _ _ _ _ _
      | exact LeO.none _
      | refine LeO.ite ?_ ?_
      | refine LeO.bind ?_ (fun _ => ?_)
def nfa_Make.T10 : Bool × List (List Nat × List Nat) := (true, [([], []), ([0], [0]), ([], []), ([2], [2]), ([3], [3]), ([1, 4, 3], [1, 4]), ([0, 1, 2, 3, 4, 5], []), ([6, 5, 5, 0, 1, 2, 3, 4, 5], [5, 6])])
def nfa_Make.B10 : List Nat := [0, 1, 0, 4, 12, 31, 63, 127]
theorem nfa_Make.tab10 : rtab .any (opsOf Tryd.f27 10) = nfa_Make.T10 := by kernel_rfl
theorem nfa_Make.bits10 : waitsOk nfa_Make.T10.2 nfa_Make.B10 = true := by kernel_rfl
set_option maxHeartbeats 8000000 in
set_option maxRecDepth 100000 in
theorem nfa_Make.calls (k : Nat) (A0 : Option Addr) (c0 : Nat) (l0 : List (List (S71))) (r1 : List (List (S71))) (r2 : List Int) (r3 : Int) (r4 : Int) (w : World) (hT : Tabs w) (hr0 : Kd.C (Kd.slice 71 k71) w A0 l0.length l0) (hc0 : l0.length ≤ c0) (h : nfa_Make.f k l0 = some (r1, r2, r3, r4)) :
    Calls Tryd.prog 27 #[.slice A0 l0.length c0] w fun e w' => ∃ v0_ v1_ : Value, e = .returned (.tuple #[.agg #[v0_, v1_, .int .i64 r3], .int .i64 r4]) ∧ Kd.S (Kd.slice 71 k71) 48 w' w.heap.size (fun _ => True) v0_ r1 ∧ Kd.R (Kd.int .i64) 3 w' w.heap.size (fun _ => True) v1_ r2 ∧ Below w.heap.size w w' := by
  have hu80 := Tryd.underlying80
  have HR0 := Aside0.mk hr0
  have HC0 := Aside0.mk hc0
  clear hr0 hc0
  have HT := Aside0.mk hT
  clear hT
  have HB := Aside0.mk (Below.refl w.heap.size w)
  have H : (nfa_Make.l0 k l0 l0 (l0.length : Int) 0 ([] : List (List (S71))) ([] : List Int) 0) = some (r1, r2, r3, r4) := h
  clear h
  have H' := Aside0.mk H
  clear H
  go_enter Tryd.func27, Tryd.ntmps27
  go_wp2_with (first | ((with_reducible refine gate_dst (N := 2) rfl ?_); refine box_event ?hg (N := 2) ?hd (cs := #[.slice none 0 0, .slice none 0 0, .int .i64 0]) (t := 80) ?hr ?_; (case hd => rfl); (case hg => rfl); (case hr => first | (go_simp; done) | (go_simp; rfl)); intro gb1 hg w2 hbox hb; have n0_ := Aside0.mk (below_step (by repeat (first | (with_reducible first | exact HB.out | apply below_alloc | apply pw_below_drewN | apply below_drew1) | exact HB.out)) hb); have n1_ := Aside0.mk (hbox); have n2_ := Aside0.mk ((by rw [hg]; exact (below_size (by repeat (first | (with_reducible first | exact HB.out | apply below_alloc | apply pw_below_drewN | apply below_drew1) | exact HB.out))) : w.heap.size ≤ gb1)); have n3_ := Aside0.mk ((by rw [hg]; exact (below_size (by repeat (first | (with_reducible first | exact HB.out | apply below_alloc | apply pw_below_drewN | apply below_drew1) | exact HB.out))) : w.heap.size ≤ gb1)); clear HB; have HB := n0_; have BK1 := n1_; have GW1 := n2_; have GE1 := n3_; clear n0_ n1_ n2_ n3_; clear hb hbox hg))
  go_loopg [10] k (fun kq v10 w' => ∃ (x10_1 : Int) (x2000_1 : List (List (S71))) (x2001_1 : List Int) (x2002_1 : Int) (u2000 : Value) (u2001 : Value), v10 = .int .i64 x10_1 ∧ Aside0 (nfa_Make.l0 kq l0 l0 (l0.length : Int) x10_1 x2000_1 x2001_1 x2002_1 = some (r1, r2, r3, r4)) ∧ Aside0 (kq ≤ k) ∧ Aside0 (Kd.S (Kd.slice 71 k71) 48 w' w.heap.size (fun _ => True) u2000 x2000_1) ∧ Aside0 (Kd.R (Kd.int .i64) 3 w' w.heap.size (fun _ => True) u2001 x2001_1) ∧ Aside0 (w'.heap[gb1]? = some (.cells #[u2000, u2001, .int .i64 x2002_1] 80 (0, 0))) ∧ Aside0 (Below w.heap.size w w'))
  case atStart => exact ⟨(0), (([] : List (List (S71)))), (([] : List Int)), (0), (.slice none 0 0), (.slice none 0 0), (by first | rfl | (simp; done) | (simp [*]; done)), H', ⟨Nat.le_refl _⟩, ⟨by first | exact Kd.S_nil _ _ _ _ _ | exact Kd.N_nil _ _ _ _ _ | exact Kd.V_nil _ _ _ _ _ | exact Kd.Q_nil _ _ _ _ _ | exact Kd.R_nil _ _ _ _ _⟩, ⟨by first | exact Kd.R_nil _ _ _ _ _ | exact Kd.N_nil _ _ _ _ _ | exact Kd.V_nil _ _ _ _ _ | exact Kd.Q_nil _ _ _ _ _ | exact Kd.S_nil _ _ _ _ _⟩, ⟨by (with_reducible repeat (first | refine blk_drewN ?_ _ | refine blk_drew ?_ | refine blk_alloc ?_ _)); exact BK1.out⟩, ⟨by repeat (first | (with_reducible first | exact HB.out | apply below_alloc | apply pw_below_drewN | apply below_drew1 | refine below_set ?_ GE1.out) | exact HB.out)⟩⟩
  case round =>
    clear H'
    try clear c2
    try clear p2
    obtain ⟨x10_1, x2000_1, x2001_1, x2002_1, u2000, u2001, rfl, HA, HK1, HO_2000, HO_2001, BK1, HB⟩ := hrel
    cases gk with
    | zero => exact absurd HA.out (by simp [nfa_Make.l0])
    | succ k1 =>
      have H := HA.out
      clear HA
      simp only [nfa_Make.l0] at H
      by_cases c3 : x10_1 < (l0.length : Int)
      · rw [if_pos c3] at H
        have c3b0 : decide (x10_1 < (l0.length : Int)) = true := decide_eq_true c3
        clear c3
        by_cases c4 : 0 ≤ x10_1
        · rw [if_pos c4] at H
          have c4b0 : decide (0 ≤ x10_1) = true := decide_eq_true c4
          clear c4
          by_cases c5 : x10_1 < (l0.length : Int)
          · rw [if_pos c5] at H
            have c5b0 : decide (x10_1 < (l0.length : Int)) = true := decide_eq_true c5
            clear c5
            replace H := Option.bind_eq_some_iff.mp H
            obtain ⟨t3, A60, H⟩ := H
            replace H : (if t3 = true then (nfa_Make.l0 k1 l0 l0 (l0.length : Int) (wrap64 (x10_1 + 1)) x2000_1 x2001_1 x2002_1) else (some (([] : List (List (S71))), ([] : List Int), 0, 5))) = some (r1, r2, r3, r4) := H
            have A6 := Aside0.mk A60
            clear A60
            by_cases c7 : t3 = true
            · subst c7
              have H1 : (nfa_Make.l0 k1 l0 l0 (l0.length : Int) (wrap64 (x10_1 + 1)) x2000_1 x2001_1 x2002_1) = some (r1, r2, r3, r4) := by rw [if_pos rfl] at H; exact H
              clear H
              have H := H1
              clear H1
              have H' := Aside0.mk H
              clear H
              have p2 : 0 ≤ (x10_1 : Int) := of_decide_eq_true (by first | (with_reducible assumption) | assumption)
              have q2 : x10_1 < (l0.length : Int) := of_decide_eq_true (by first | (with_reducible assumption) | assumption)
              obtain ⟨ad2, A2_0, c2_0, e2, hx2_0, hl2_0, hi2_0⟩ := at_L7 HR0.out x10_1 p2 q2
              cases e2
              replace hx2_0 := (HB.out.cell (World.block_lt_of_cell? w _ hx2_0)).trans hx2_0
              have HR2_0 := Aside0.mk hi2_0
              have HC2_0 := Aside0.mk hl2_0
              clear hi2_0 hl2_0
              replace p2 := eq_true p2
              replace q2 := eq_true q2
              go_wp2_with (first | ((with_reducible refine gate_callee (f := 47) rfl ?_); refine goesL_ (some 15) rfl rfl Tryd.func47 (by kernel_rfl) rfl #[.slice A2_0 (rd_L7 l0 x10_1).length c2_0] rfl (by (try simp only [List.map_toArray, List.map_cons, List.map_nil]); first | done | rfl | (simp only [List.length_drop, List.length_take]; rfl)) ?_; (with_reducible refine (path_Right.calls _ _ (rd_L7 l0 x10_1) true _ ?side1 ?side2 ?side3 A6.out).mono ?_); (case side1 => exact Tabs.below HT.out (by repeat (first | (with_reducible first | exact HB.out | apply below_alloc | apply pw_below_drewN | apply below_drew1 | refine below_set ?_ GE1.out) | exact HB.out))); (case side2 => repeat (first | exact (Kd.C_below HR2_0.out HB.out) | (with_reducible refine Kd.C_alloc ?_ _) | (with_reducible refine Kd.C_drewN ?_ _) | (with_reducible refine Kd.C_drew ?_))); (case side3 => exact HC2_0.out); rintro e w8 ⟨rfl, hb⟩; refine ⟨_, rfl, ?_⟩; have n0_ := Aside0.mk (Kd.S_below (by (with_reducible repeat (first | apply Kd.S_alloc | apply Kd.S_drewN | apply Kd.S_drew)); exact HO_2000.out) hb); have n1_ := Aside0.mk (Kd.R_below (by (with_reducible repeat (first | apply Kd.R_alloc | apply Kd.R_drewN | apply Kd.R_drew)); exact HO_2001.out) hb); have n2_ := Aside0.mk (blk_below (g := gb1) (o := .cells #[u2000, u2001, .int .i64 x2002_1] 80 (0, 0)) (by (with_reducible repeat (first | refine blk_drewN ?_ _ | refine blk_drew ?_ | refine blk_alloc ?_ _)); exact BK1.out) hb); have n3_ := Aside0.mk (below_step (by repeat (first | (with_reducible first | exact HB.out | apply below_alloc | apply pw_below_drewN | apply below_drew1 | refine below_set ?_ GE1.out) | exact HB.out)) hb); clear HO_2000; clear HO_2001; clear BK1; clear HB; have HO_2000 := n0_; have HO_2001 := n1_; have BK1 := n2_; have HB := n3_; clear n0_ n1_ n2_ n3_; (try clear hb); (try clear hb2); (try clear hk); (try clear hi)))
              go_roundg k1
              case measure => have := HK1.out; omega
              case rel => exact ⟨(wrap64 (x10_1 + 1)), (x2000_1), (x2001_1), (x2002_1), (u2000), (u2001), (by first | rfl | (simp; done) | (simp [*]; done)), H', ⟨by have := HK1.out; omega⟩, ⟨by (with_reducible repeat (first | apply Kd.S_alloc | apply Kd.S_drewN | apply Kd.S_drew)); exact HO_2000.out⟩, ⟨by (with_reducible repeat (first | apply Kd.R_alloc | apply Kd.R_drewN | apply Kd.R_drew)); exact HO_2001.out⟩, ⟨by (with_reducible repeat (first | refine blk_drewN ?_ _ | refine blk_drew ?_ | refine blk_alloc ?_ _)); exact BK1.out⟩, ⟨by repeat (first | (with_reducible first | exact HB.out | apply below_alloc | apply pw_below_drewN | apply below_drew1 | refine below_set ?_ GE1.out) | exact HB.out)⟩⟩
            · replace c7 := Bool.eq_false_iff.mpr c7
              subst c7
              have H1 : (some (([] : List (List (S71))), ([] : List Int), 0, 5)) = some (r1, r2, r3, r4) := by rw [if_neg (show ¬ (false = true) by decide)] at H; exact H
              clear H
              have H := H1
              clear H1
              simp only [Option.some.injEq, Prod.mk.injEq] at H
              obtain ⟨rfl, rfl, rfl, rfl⟩ := H
              have p2 : 0 ≤ (x10_1 : Int) := of_decide_eq_true (by first | (with_reducible assumption) | assumption)
              have q2 : x10_1 < (l0.length : Int) := of_decide_eq_true (by first | (with_reducible assumption) | assumption)
              obtain ⟨ad2, A2_0, c2_0, e2, hx2_0, hl2_0, hi2_0⟩ := at_L7 HR0.out x10_1 p2 q2
              cases e2
              replace hx2_0 := (HB.out.cell (World.block_lt_of_cell? w _ hx2_0)).trans hx2_0
              have HR2_0 := Aside0.mk hi2_0
              have HC2_0 := Aside0.mk hl2_0
              clear hi2_0 hl2_0
              replace p2 := eq_true p2
              replace q2 := eq_true q2
              go_wp2_with (first | ((with_reducible refine gate_callee (f := 47) rfl ?_); refine goesL_ (some 15) rfl rfl Tryd.func47 (by kernel_rfl) rfl #[.slice A2_0 (rd_L7 l0 x10_1).length c2_0] rfl (by (try simp only [List.map_toArray, List.map_cons, List.map_nil]); first | done | rfl | (simp only [List.length_drop, List.length_take]; rfl)) ?_; (with_reducible refine (path_Right.calls _ _ (rd_L7 l0 x10_1) false _ ?side1 ?side2 ?side3 A6.out).mono ?_); (case side1 => exact Tabs.below HT.out (by repeat (first | (with_reducible first | exact HB.out | apply below_alloc | apply pw_below_drewN | apply below_drew1 | refine below_set ?_ GE1.out) | exact HB.out))); (case side2 => repeat (first | exact (Kd.C_below HR2_0.out HB.out) | (with_reducible refine Kd.C_alloc ?_ _) | (with_reducible refine Kd.C_drewN ?_ _) | (with_reducible refine Kd.C_drew ?_))); (case side3 => exact HC2_0.out); rintro e w9 ⟨rfl, hb⟩; refine ⟨_, rfl, ?_⟩; have n0_ := Aside0.mk (Kd.S_below (by (with_reducible repeat (first | apply Kd.S_alloc | apply Kd.S_drewN | apply Kd.S_drew)); exact HO_2000.out) hb); have n1_ := Aside0.mk (Kd.R_below (by (with_reducible repeat (first | apply Kd.R_alloc | apply Kd.R_drewN | apply Kd.R_drew)); exact HO_2001.out) hb); have n2_ := Aside0.mk (blk_below (g := gb1) (o := .cells #[u2000, u2001, .int .i64 x2002_1] 80 (0, 0)) (by (with_reducible repeat (first | refine blk_drewN ?_ _ | refine blk_drew ?_ | refine blk_alloc ?_ _)); exact BK1.out) hb); have n3_ := Aside0.mk (below_step (by repeat (first | (with_reducible first | exact HB.out | apply below_alloc | apply pw_below_drewN | apply below_drew1 | refine below_set ?_ GE1.out) | exact HB.out)) hb); clear HO_2000; clear HO_2001; clear BK1; clear HB; have HO_2000 := n0_; have HO_2001 := n1_; have BK1 := n2_; have HB := n3_; clear n0_ n1_ n2_ n3_; (try clear hb); (try clear hb2); (try clear hk); (try clear hi); have hcz10_0 : w9.cell? ⟨gb1, 0, none⟩ = some (u2000) := (blk_cell BK1.out 0).trans rfl; have hcz10_1 : w9.cell? ⟨gb1, 1, none⟩ = some (u2001) := (blk_cell BK1.out 1).trans rfl; have hcz10_2 : w9.cell? ⟨gb1, 2, none⟩ = some (.int .i64 x2002_1) := (blk_cell BK1.out 2).trans rfl; have hfz10_0 := blk_frozen BK1.out 0; have hfz10_1 := blk_frozen BK1.out 1; have hfz10_2 := blk_frozen BK1.out 2))
              refine bodyPost_ret (results_ct rfl _ _ gb1 80 #[.slice none 0 0, .slice none 0 0, .int .i64 0] (0, 0) _ rfl (by (with_reducible repeat (first | refine blk_drewN ?_ _ | refine blk_drew ?_ | refine blk_alloc ?_ _)); refine blk_put (cs := #[.slice none 0 0, .slice none 0 0, .int .i64 x2002_1]) ?_ 2 _ rfl; (with_reducible repeat (first | refine blk_drewN ?_ _ | refine blk_drew ?_ | refine blk_alloc ?_ _)); refine blk_put (cs := #[.slice none 0 0, u2001, .int .i64 x2002_1]) ?_ 1 _ rfl; (with_reducible repeat (first | refine blk_drewN ?_ _ | refine blk_drew ?_ | refine blk_alloc ?_ _)); refine blk_put (cs := #[u2000, u2001, .int .i64 x2002_1]) ?_ 0 _ rfl; (with_reducible repeat (first | refine blk_drewN ?_ _ | refine blk_drew ?_ | refine blk_alloc ?_ _)); exact BK1.out) Tryd.underlying80 rfl (by kernel_rfl)) rfl ?_
              exact ⟨_, _, by first | rfl | (simp [errW_none, errW_some] <;> rfl) | (simp [*, errW_none, errW_some] <;> rfl), by first | exact Kd.S_nil _ _ _ _ _ | exact Kd.N_nil _ _ _ _ _ | exact Kd.V_nil _ _ _ _ _ | exact Kd.Q_nil _ _ _ _ _ | exact Kd.R_nil _ _ _ _ _, by first | exact Kd.R_nil _ _ _ _ _ | exact Kd.N_nil _ _ _ _ _ | exact Kd.V_nil _ _ _ _ _ | exact Kd.Q_nil _ _ _ _ _ | exact Kd.S_nil _ _ _ _ _, by repeat (first | (with_reducible first | exact HB.out | apply below_alloc | apply pw_below_drewN | apply below_drew1 | refine below_set ?_ GE1.out) | exact HB.out)⟩
          · rw [if_neg c5] at H
            exact absurd H (by simp)
        · rw [if_neg c4] at H
          exact absurd H (by simp)
      · rw [if_neg c3] at H
        have c3b0 : decide (x10_1 < (l0.length : Int)) = false := decide_eq_false c3
        clear c3
        have H' := Aside0.mk H
        clear H
        go_wp2
        go_loopg [21] k1 (fun kq v21 w' => ∃ (x21_2 : Int) (x2000_2 : List (List (S71))) (x2001_2 : List Int) (x2002_2 : Int) (u2000 : Value) (u2001 : Value), v21 = .int .i64 x21_2 ∧ Aside0 (nfa_Make.l1 kq l0 (l0.length : Int) x21_2 x2000_2 x2001_2 x2002_2 = some (r1, r2, r3, r4)) ∧ Aside0 (kq ≤ k1) ∧ Aside0 (Kd.S (Kd.slice 71 k71) 48 w' w.heap.size (fun _ => True) u2000 x2000_2) ∧ Aside0 (Kd.R (Kd.int .i64) 3 w' w.heap.size (fun _ => True) u2001 x2001_2) ∧ Aside0 (w'.heap[gb1]? = some (.cells #[u2000, u2001, .int .i64 x2002_2] 80 (0, 0))) ∧ Aside0 (Below w.heap.size w w'))
        case atStart => exact ⟨(0), (x2000_1), (x2001_1), (x2002_1), (u2000), (u2001), (by first | rfl | (simp; done) | (simp [*]; done)), H', ⟨Nat.le_refl _⟩, ⟨by (with_reducible repeat (first | apply Kd.S_alloc | apply Kd.S_drewN | apply Kd.S_drew)); exact HO_2000.out⟩, ⟨by (with_reducible repeat (first | apply Kd.R_alloc | apply Kd.R_drewN | apply Kd.R_drew)); exact HO_2001.out⟩, ⟨by (with_reducible repeat (first | refine blk_drewN ?_ _ | refine blk_drew ?_ | refine blk_alloc ?_ _)); exact BK1.out⟩, ⟨by repeat (first | (with_reducible first | exact HB.out | apply below_alloc | apply pw_below_drewN | apply below_drew1 | refine below_set ?_ GE1.out) | exact HB.out)⟩⟩
        case round =>
          clear H'
          try clear c2
          try clear p2
          try clear q2
          try clear hx2
          try clear c3
          try clear c3b0
          try clear c4
          try clear c4b0
          try clear c5
          try clear c5b0
          try clear p6
          try clear c7
          try clear hcz10_0
          try clear hcz10_1
          try clear hcz10_2
          try clear hfz10_0
          try clear hfz10_1
          try clear hfz10_2
          try clear hx2_0
          try clear p2
          try clear q2
          obtain ⟨x21_2, x2000_2, x2001_2, x2002_2, u2000, u2001, rfl, HA, HK2, HO_2000, HO_2001, BK1, HB⟩ := hrel
          cases gk with
          | zero => exact absurd HA.out (by simp [nfa_Make.l1])
          | succ k2 =>
            have H := HA.out
            clear HA
            simp only [nfa_Make.l1] at H
            by_cases c11 : x21_2 < (l0.length : Int)
            · rw [if_pos c11] at H
              have c11b0 : decide (x21_2 < (l0.length : Int)) = true := decide_eq_true c11
              clear c11
              by_cases c12 : 0 ≤ x21_2
              · rw [if_pos c12] at H
                have c12b0 : decide (0 ≤ x21_2) = true := decide_eq_true c12
                clear c12
                by_cases c13 : x21_2 < (l0.length : Int)
                · rw [if_pos c13] at H
                  have c13b0 : decide (x21_2 < (l0.length : Int)) = true := decide_eq_true c13
                  clear c13
                  replace H := Option.bind_eq_some_iff.mp H
                  obtain ⟨t5, A140, H⟩ := H
                  replace H : (if x2000_2.length < 5864062014805 then (if x2001_2.length < 17592186044416 then (nfa_Make.l1 k2 l0 (l0.length : Int) (wrap64 (x21_2 + 1)) (x2000_2 ++ [t5]) (x2001_2 ++ [x2002_2]) (wrap64 (x2002_2 + (wrap64 (((rd_L7 l0 x21_2).length : Int) + 1))))) else (none)) else (none)) = some (r1, r2, r3, r4) := H
                  have A14 := Aside0.mk A140
                  clear A140
                  by_cases c15 : x2000_2.length < 5864062014805
                  · rw [if_pos c15] at H
                    have LMc15 := Aside0.mk c15
                    clear c15
                    obtain ⟨y8, hy8⟩ : ∃ y_ : List (List (S71)), y_ = (x2000_2 ++ [t5]) := ⟨_, rfl⟩
                    replace H : (if x2001_2.length < 17592186044416 then (nfa_Make.l1 k2 l0 (l0.length : Int) (wrap64 (x21_2 + 1)) y8 (x2001_2 ++ [x2002_2]) (wrap64 (x2002_2 + (wrap64 (((rd_L7 l0 x21_2).length : Int) + 1))))) else (none)) = some (r1, r2, r3, r4) := by first | (rw [hy8]; with_reducible exact H) | (have H2_ := (Option.bind_some _ _).symm.trans H; rw [hy8]; with_reducible exact H2_) | (have H2_ := (Option.bind_some _ _).symm.trans H; with_reducible exact H2_) | with_reducible exact H | (rw [hy8]; exact H) | exact H
                    have Ny8 := Aside0.mk hy8
                    clear hy8
                    by_cases c16 : x2001_2.length < 17592186044416
                    · rw [if_pos c16] at H
                      have LMc16 := Aside0.mk c16
                      clear c16
                      obtain ⟨y11, hy11⟩ : ∃ y_ : List Int, y_ = (x2001_2 ++ [x2002_2]) := ⟨_, rfl⟩
                      replace H : (nfa_Make.l1 k2 l0 (l0.length : Int) (wrap64 (x21_2 + 1)) y8 y11 (wrap64 (x2002_2 + (wrap64 (((rd_L7 l0 x21_2).length : Int) + 1))))) = some (r1, r2, r3, r4) := by first | (rw [hy11]; with_reducible exact H) | (have H2_ := (Option.bind_some _ _).symm.trans H; rw [hy11]; with_reducible exact H2_) | (have H2_ := (Option.bind_some _ _).symm.trans H; with_reducible exact H2_) | with_reducible exact H | (rw [hy11]; exact H) | exact H
                      have Ny11 := Aside0.mk hy11
                      clear hy11
                      have H' := Aside0.mk H
                      clear H
                      have p4 : 0 ≤ (x21_2 : Int) := of_decide_eq_true (by first | (with_reducible assumption) | assumption)
                      have q4 : x21_2 < (l0.length : Int) := of_decide_eq_true (by first | (with_reducible assumption) | assumption)
                      obtain ⟨ad4, A4_0, c4_0, e4, hx4_0, hl4_0, hi4_0⟩ := at_L7 HR0.out x21_2 p4 q4
                      cases e4
                      replace hx4_0 := (HB.out.cell (World.block_lt_of_cell? w _ hx4_0)).trans hx4_0
                      have HR4_0 := Aside0.mk hi4_0
                      have HC4_0 := Aside0.mk hl4_0
                      clear hi4_0 hl4_0
                      replace p4 := eq_true p4
                      replace q4 := eq_true q4
                      try go_wp2
                      have n0_ := Aside0.mk (Kd.S_drew HO_2000.out)
                      have n1_ := Aside0.mk (Kd.R_drew HO_2001.out)
                      have n2_ := Aside0.mk (blk_drew BK1.out)
                      have n3_ := Aside0.mk (below_drew1 HB.out)
                      clear HO_2000
                      clear HO_2001
                      clear BK1
                      clear HB
                      have HO_2000 := n0_
                      have HO_2001 := n1_
                      have BK1 := n2_
                      have HB := n3_
                      clear n0_ n1_ n2_ n3_
                      refine start_ (n := 8) (S := fun w' => w'.cell? ⟨gb1, 0, none⟩ = some (u2000) ∧ w'.cell? ⟨gb1, 1, none⟩ = some (u2001) ∧ w'.cell? ⟨gb1, 2, none⟩ = some (.int .i64 x2002_2)) (ds := [7]) #[false, false, false, false, false, false, false, false] (by kernel_rfl) rfl rfl ⟨(blk_cell BK1.out 0).trans rfl, (blk_cell BK1.out 1).trans rfl, (blk_cell BK1.out 2).trans rfl⟩ (fun hHeld => ?_); refine with_tabW nfa_Make.tab10 nfa_Make.bits10 (fun HT_ HW_ => ?_)
                      generalize wr.drew = w17 at HO_2000 HO_2001 BK1 HB hHeld ⊢
                      refine pure_ (i := 0) (N := some 25) (v := ?_) (a' := ?_) #[true, false, false, false, false, false, false, false] rfl rfl (any_of HT_.out (by kernel_rfl)) (fun _ _ _ h => h) (Or.inl ⟨by rfl, ?_⟩) ?_ ?_
                      rotate_left
                      · intro w'
                        go_simp
                        with_reducible rfl
                      rotate_left
                      · simp only [Act.put, List.setIfInBounds_toArray, List.set_cons_zero, List.set_cons_succ, i64_w, i32_w]
                        rfl
                      refine pure_ (i := 2) (N := some 27) (v := ?_) (a' := ?_) #[true, false, true, false, false, false, false, false] rfl rfl (any_of HT_.out (by kernel_rfl)) (fun _ _ _ h => h) (Or.inl ⟨by rfl, ?_⟩) ?_ ?_
                      rotate_left
                      · intro w'
                        go_simp
                        with_reducible rfl
                      rotate_left
                      · simp only [Act.put, List.setIfInBounds_toArray, List.set_cons_zero, List.set_cons_succ, i64_w, i32_w]
                        rfl
                      refine take_ (i := 1) (N := some 26) (v := ?_) (a' := ?_) #[true, true, true, false, false, false, false, false] rfl rfl (take_ofW HT_.out HW_.out (by kernel_rfl)) (fun _ _ _ h => h) (Or.inl ⟨by rfl, ?_⟩) hHeld ?_ ?_
                      rotate_left
                      · rintro w' ⟨s0, s1, s2⟩
                        go_simp
                        with_reducible rfl
                      rotate_left
                      · simp only [Act.put, List.setIfInBounds_toArray, List.set_cons_zero, List.set_cons_succ, i64_w, i32_w]
                        rfl
                      refine one_ (i := 3) (N := some 28) #[true, true, true, true, false, false, false, false] rfl rfl (one_of HT_.out (by kernel_rfl)) (by decide) (fun K hK => ?_)
                      refine goes_ Tryd.func53 (by kernel_rfl) rfl #[.slice A4_0 (rd_L7 l0 x21_2).length c4_0] (by rfl) rfl rfl (by (try simp only [List.map_toArray, List.map_cons, List.map_nil]); first | done | rfl | (simp only [List.length_drop, List.length_take]; rfl)) ?_
                      with_reducible refine (clonePart.calls _ _ (rd_L7 l0 x21_2) t5 _ ?side1 ?side2 A14.out).mono ?_
                      (case side1 => repeat (first | exact (Kd.C_below HR4_0.out HB.out) | (with_reducible refine Kd.C_alloc ?_ _) | (with_reducible refine Kd.C_drewN ?_ _) | (with_reducible refine Kd.C_drew ?_)))
                      (case side2 => exact HC4_0.out)
                      rintro e w18 ⟨v6, rfl, ho0, hb⟩
                      refine ⟨_, rfl, ?_⟩
                      have n0_ := Aside0.mk (Kd.S_elder' (by (with_reducible repeat (first | apply Kd.S_alloc | apply Kd.S_drewN | apply Kd.S_drew)); exact HO_2000.out) (Kd.R_base ho0) hb)
                      have n1_ := Aside0.mk (Kd.R_below (by (with_reducible repeat (first | apply Kd.R_alloc | apply Kd.R_drewN | apply Kd.R_drew)); exact HO_2001.out) hb)
                      have n2_ := Aside0.mk (Kd.R_lower ho0 (below_size (by repeat (first | (with_reducible first | exact HB.out | apply below_alloc | apply pw_below_drewN | apply below_drew1 | refine below_set ?_ GE1.out) | exact HB.out))))
                      have n3_ := Aside0.mk (blk_below (g := gb1) (o := .cells #[u2000, u2001, .int .i64 x2002_2] 80 (0, 0)) (by (with_reducible repeat (first | refine blk_drewN ?_ _ | refine blk_drew ?_ | refine blk_alloc ?_ _)); exact BK1.out) hb)
                      have n4_ := Aside0.mk (below_step (by repeat (first | (with_reducible first | exact HB.out | apply below_alloc | apply pw_below_drewN | apply below_drew1 | refine below_set ?_ GE1.out) | exact HB.out)) hb)
                      clear HO_2000
                      clear HO_2001
                      clear BK1
                      clear HB
                      have HO_2000 := n0_
                      have HO_2001 := n1_
                      have HO7 := n2_
                      have BK1 := n3_
                      have HB := n4_
                      clear n0_ n1_ n2_ n3_ n4_
                      (try clear hb)
                      (try clear hb2)
                      (try clear hk)
                      (try clear hi)
                      (try clear ho0)
                      obtain ⟨Ao20, co20, eo20⟩ := Kd.R_slice HO7.out
                      (first | subst eo20 | (injection eo20 with f1_ f2_ f3_; have f4_ := f1_.symm; have f5_ := f3_.symm; clear f1_ f2_ f3_; subst f4_; subst f5_))
                      refine hK.out _ _ ⟨(blk_cell BK1.out 0).trans rfl, (blk_cell BK1.out 1).trans rfl, (blk_cell BK1.out 2).trans rfl⟩ (fun hHeld => ?_)
                      clear hK K
                      refine norm_ (a' := ?_) ?_ ?_
                      rotate_left
                      · show Act.put _ (some 28) _ = _
                        simp only [Act.put, List.setIfInBounds_toArray, List.set_cons_zero, List.set_cons_succ, i64_w, i32_w]
                        rfl
                      refine one_ (i := 4) (N := some 29) #[true, true, true, true, true, false, false, false] rfl rfl (one_of HT_.out (by kernel_rfl)) (by decide) (fun K hK => ?_)
                      refine value_ (w1 := ?_) (v := ?_) (by rfl) rfl ?_ ?_
                      rotate_left 2
                      · go_simp
                        constructor
                        · rfl
                        · rfl
                      refine hK.out _ _ ⟨(blk_cell (blk_alloc BK1.out _) 0).trans rfl, (blk_cell (blk_alloc BK1.out _) 1).trans rfl, (blk_cell (blk_alloc BK1.out _) 2).trans rfl⟩ (fun hHeld => ?_)
                      clear hK K
                      refine norm_ (a' := ?_) ?_ ?_
                      rotate_left
                      · show Act.put _ (some 29) _ = _
                        simp only [Act.put, List.setIfInBounds_toArray, List.set_cons_zero, List.set_cons_succ, i64_w, i32_w]
                        rfl
                      refine one_ (i := 5) (N := some 30) #[true, true, true, true, true, true, false, false] rfl rfl (one_of HT_.out (by kernel_rfl)) (by decide) (fun K hK => ?_)
                      refine Kd.S_append_step (Kd.slice 71 k71) (w0 := w) w.heap.size (by rfl) (.tmp 26) (.tmp 29) 76 48 (.slice none 0 0) 24 rfl Tryd.underlying76 info48 rfl (by decide) (by omega) u2000 x2000_2 t5 [.slice Ao20 t5.length co20] (fun _ => True) (fun k_ => some k_ = (.slice Ao20 t5.length co20 : Value).ownBlock) rfl rfl ?aP (fun k_ hk_ => ((Kd.R_mono (ok' := fun k_ => ((fun _ => True)) k_ ∧ some k_ ≠ (u2000 : Value).ownBlock) (Kd.R_apart' (HO7.out) (Kd.S_typed HO_2000.out) (by decide)) (fun k_ hk => ⟨trivial, hk.2⟩))).1 k_ hk_.symm) ?aF ?aO ?aB ?aS ?aL ?_
                      (case aP => exact Kd.M_row (Kd.R_mono (Kd.R_tight rfl (Kd.R_mono (ok' := fun k_ => ((fun _ => True)) k_ ∧ some k_ ≠ (u2000 : Value).ownBlock) (Kd.R_apart' (HO7.out) (Kd.S_typed HO_2000.out) (by decide)) (fun k_ hk => ⟨trivial, hk.2⟩))) (fun _ h_ => h_)))
                      (case aB => exact (by repeat (first | (with_reducible first | exact HB.out | apply below_alloc | apply pw_below_drewN | apply below_drew1 | refine below_set ?_ GE1.out) | exact HB.out)))
                      (case aF => exact (fun _ _ => trivial))
                      (case aO => exact (by (with_reducible repeat (first | apply Kd.S_alloc | apply Kd.S_drewN | apply Kd.S_drew)); exact Kd.S_mono HO_2000.out (fun k_ hk => ⟨trivial, fun e_ => hk.2 e_⟩)))
                      (case aS => exact (below_size (by repeat (first | (with_reducible first | exact HB.out | apply below_alloc | apply pw_below_drewN | apply below_drew1 | refine below_set ?_ GE1.out) | exact HB.out))))
                      (case aL => have := LMc15.out; omega)
                      intro v9 w19 ho hb hg hat
                      rw [← Ny8.out] at ho
                      have n0_ := Aside0.mk (Kd.R_over' (by (with_reducible repeat (first | apply Kd.R_alloc | apply Kd.R_drewN | apply Kd.R_drew)); exact HO_2001.out) (Kd.S_typed (by (with_reducible repeat (first | apply Kd.S_alloc | apply Kd.S_drewN | apply Kd.S_drew)); exact HO_2000.out)) (by decide) hg)
                      have n1_ := Aside0.mk (blk_grown (g := gb1) (o := .cells #[u2000, u2001, .int .i64 x2002_2] 80 (0, 0)) (by (with_reducible repeat (first | refine blk_drewN ?_ _ | refine blk_drew ?_ | refine blk_alloc ?_ _)); exact BK1.out) hg (Kd.S_ne HO_2000.out BK1.out (by decide)))
                      have n2_ := Aside0.mk (hb)
                      have n3_ := Aside0.mk (ho)
                      clear HO_2001
                      clear BK1
                      clear HB
                      clear HO_2000
                      clear HO7
                      have HO_2001 := n0_
                      have BK1 := n1_
                      have HB := n2_
                      have HO10 := n3_
                      clear n0_ n1_ n2_ n3_
                      clear ho hb hg hat
                      obtain ⟨Ao21, co21, eo21⟩ := Kd.S_slice HO10.out
                      (first | subst eo21 | (injection eo21 with f1_ f2_ f3_; have f4_ := f1_.symm; have f5_ := f3_.symm; clear f1_ f2_ f3_; subst f4_; subst f5_))
                      refine hK.out _ _ ⟨(blk_cell BK1.out 0).trans rfl, (blk_cell BK1.out 1).trans rfl, (blk_cell BK1.out 2).trans rfl⟩ (fun hHeld => ?_)
                      clear hK K
                      refine norm_ (a' := ?_) ?_ ?_
                      rotate_left
                      · show Act.put _ (some 30) _ = _
                        simp only [Act.put, List.setIfInBounds_toArray, List.set_cons_zero, List.set_cons_succ, i64_w, i32_w]
                        rfl
                      refine pure_ (i := 6) (N := some 31) (v := ?_) (a' := ?_) #[true, true, true, true, true, true, true, false] rfl rfl (any_of HT_.out (by kernel_rfl)) (fun _ _ _ h => h) (Or.inl ⟨by rfl, ?_⟩) ?_ ?_
                      rotate_left
                      · intro w'
                        go_simp
                        with_reducible rfl
                      rotate_left
                      · simp only [Act.put, List.setIfInBounds_toArray, List.set_cons_zero, List.set_cons_succ, i64_w, i32_w]
                        rfl
                      refine last_ (i := 7) (N := none) #[true, true, true, true, true, true, true, true] rfl rfl (one_of HT_.out (by kernel_rfl)) (by decide) (fun K hK => ?_)
                      have hs22 : w19.cell? ⟨gb1, 0, none⟩ = some (u2000) := (blk_cell BK1.out 0).trans rfl
                      have hfs22 := blk_frozen BK1.out 0
                      refine skip_ (w1 := ?_) (by rfl) rfl ?_ ?_
                      rotate_left
                      · go_simp
                        rfl
                      refine hK.out _ _ ?_
                      clear hK K
                      refine done_ (done_of HT_.out (by kernel_rfl)) ?_
                      have hcz23_0 : w19.cell? ⟨gb1, 0, none⟩ = some (u2000) := (blk_cell BK1.out 0).trans rfl
                      have hcz23_1 : w19.cell? ⟨gb1, 1, none⟩ = some (u2001) := (blk_cell BK1.out 1).trans rfl
                      have hcz23_2 : w19.cell? ⟨gb1, 2, none⟩ = some (.int .i64 x2002_2) := (blk_cell BK1.out 2).trans rfl
                      have hfz23_0 := blk_frozen BK1.out 0
                      have hfz23_1 := blk_frozen BK1.out 1
                      have hfz23_2 := blk_frozen BK1.out 2
                      try go_wp2_with (first | ((with_reducible refine gate_builtin (b := .append) (xs := #[.tmp 33, .tmp 36]) rfl ?_); at_builtin; refine Kd.R_append (Kd.int .i64) (w0 := w) w.heap.size rfl (.tmp 33) (.tmp 36) 22 3 (.int .i64 0) 8 rfl Tryd.underlying22 info3 rfl (by decide) (by omega) u2001 x2001_2 x2002_2 [.int .i64 x2002_2] (fun _ => True) (fun _ => False) rfl (by first | (go_simp; done) | (go_simp; rfl)) ?aP (fun _ hk => hk.elim) ?aF ?aO ?aB ?aS ?aL ?_; (case aP => exact rfl); (case aB => exact (by repeat (first | (with_reducible first | exact HB.out | apply below_alloc | apply pw_below_drewN | apply below_drew1 | refine below_set ?_ GE1.out) | exact HB.out))); (case aF => exact (fun _ _ => trivial)); (case aO => exact (by (with_reducible repeat (first | apply Kd.R_alloc | apply Kd.R_drewN | apply Kd.R_drew)); exact Kd.R_mono (Kd.R_far (p := ⟨gb1, 0, none⟩) (Kd.R_types HO_2001.out BK1.out (by decide)) (fun _ hk => hk.2) (.slice Ao21 y8.length co21)) (fun _ hk => trivial))); (case aS => exact (below_size (by repeat (first | (with_reducible first | exact HB.out | apply below_alloc | apply pw_below_drewN | apply below_drew1 | refine below_set ?_ GE1.out) | exact HB.out)))); (case aL => have := LMc16.out; omega); intro v12 w24 ho hb hg hat; rw [← Ny11.out] at ho; have n0_ := Aside0.mk (blk_grown (g := gb1) (o := .cells #[.slice Ao21 y8.length co21, u2001, .int .i64 x2002_2] 80 (0, 0)) (by (with_reducible repeat (first | refine blk_drewN ?_ _ | refine blk_drew ?_ | refine blk_alloc ?_ _)); refine blk_put (cs := #[u2000, u2001, .int .i64 x2002_2]) ?_ 0 _ rfl; (with_reducible repeat (first | refine blk_drewN ?_ _ | refine blk_drew ?_ | refine blk_alloc ?_ _)); exact BK1.out) hg (Kd.R_ne HO_2001.out BK1.out (by decide))); have n1_ := Aside0.mk (Kd.S_over' (by (with_reducible repeat (first | apply Kd.S_alloc | apply Kd.S_drewN | apply Kd.S_drew)); exact (Kd.S_mono (Kd.S_far (p := ⟨gb1, 0, none⟩) (Kd.S_types HO10.out BK1.out (by decide)) (fun _ hk => hk.2) (.slice Ao21 y8.length co21)) (fun _ h_ => h_.1))) (Kd.R_typed (by (with_reducible repeat (first | apply Kd.R_alloc | apply Kd.R_drewN | apply Kd.R_drew)); exact (Kd.R_mono (Kd.R_far (p := ⟨gb1, 0, none⟩) (Kd.R_types HO_2001.out BK1.out (by decide)) (fun _ hk => hk.2) (.slice Ao21 y8.length co21)) (fun _ h_ => h_.1)))) (by decide) hg); have n2_ := Aside0.mk (hb); have n3_ := Aside0.mk (ho); clear BK1; clear HO10; clear HB; clear HO_2001; have BK1 := n0_; have HO10 := n1_; have HB := n2_; have HO13 := n3_; clear n0_ n1_ n2_ n3_; clear ho hb hg hat; obtain ⟨Ao25, co25, eo25⟩ := Kd.R_slice HO13.out; subst eo25; have hcz26_0 : w24.cell? ⟨gb1, 0, none⟩ = some (.slice Ao21 y8.length co21) := (blk_cell BK1.out 0).trans rfl; have hcz26_1 : w24.cell? ⟨gb1, 1, none⟩ = some (u2001) := (blk_cell BK1.out 1).trans rfl; have hcz26_2 : w24.cell? ⟨gb1, 2, none⟩ = some (.int .i64 x2002_2) := (blk_cell BK1.out 2).trans rfl; have hfz26_0 := blk_frozen BK1.out 0; have hfz26_1 := blk_frozen BK1.out 1; have hfz26_2 := blk_frozen BK1.out 2))
                      go_roundg k2
                      case measure => have := HK1.out; have := HK2.out; omega
                      case rel => exact ⟨(wrap64 (x21_2 + 1)), (y8), (y11), (wrap64 (x2002_2 + (wrap64 (((rd_L7 l0 x21_2).length : Int) + 1)))), (.slice Ao21 y8.length co21), (.slice Ao25 y11.length co25), (by first | rfl | (simp; done) | (simp [*]; done)), H', ⟨by have := HK1.out; have := HK2.out; omega⟩, ⟨by (with_reducible repeat (first | apply Kd.S_alloc | apply Kd.S_drewN | apply Kd.S_drew)); exact Kd.S_mono (Kd.S_far (p := ⟨gb1, 2, none⟩) (Kd.S_far (p := ⟨gb1, 1, none⟩) (Kd.S_types HO10.out BK1.out (by decide)) (fun _ hk => hk.2) (.slice Ao25 y11.length co25)) (fun _ hk => hk.2) (.int .i64 (wrap64 (x2002_2 + (wrap64 (((rd_L7 l0 x21_2).length : Int) + 1)))))) (fun _ hk => trivial)⟩, ⟨by (with_reducible repeat (first | apply Kd.R_alloc | apply Kd.R_drewN | apply Kd.R_drew)); exact Kd.R_mono (Kd.R_far (p := ⟨gb1, 2, none⟩) (Kd.R_far (p := ⟨gb1, 1, none⟩) (Kd.R_types HO13.out BK1.out (by decide)) (fun _ hk => hk.2) (.slice Ao25 y11.length co25)) (fun _ hk => hk.2) (.int .i64 (wrap64 (x2002_2 + (wrap64 (((rd_L7 l0 x21_2).length : Int) + 1)))))) (fun _ hk => trivial)⟩, ⟨by (with_reducible repeat (first | refine blk_drewN ?_ _ | refine blk_drew ?_ | refine blk_alloc ?_ _)); refine blk_put (cs := #[.slice Ao21 y8.length co21, .slice Ao25 y11.length co25, .int .i64 x2002_2]) ?_ 2 _ rfl; (with_reducible repeat (first | refine blk_drewN ?_ _ | refine blk_drew ?_ | refine blk_alloc ?_ _)); refine blk_put (cs := #[.slice Ao21 y8.length co21, u2001, .int .i64 x2002_2]) ?_ 1 _ rfl; (with_reducible repeat (first | refine blk_drewN ?_ _ | refine blk_drew ?_ | refine blk_alloc ?_ _)); exact BK1.out⟩, ⟨by repeat (first | (with_reducible first | exact HB.out | apply below_alloc | apply pw_below_drewN | apply below_drew1 | refine below_set ?_ GE1.out) | exact HB.out)⟩⟩
                    · rw [if_neg c16] at H
                      exact absurd H (by simp)
                  · rw [if_neg c15] at H
                    exact absurd H (by simp)
                · rw [if_neg c13] at H
                  exact absurd H (by simp)
              · rw [if_neg c12] at H
                exact absurd H (by simp)
            · rw [if_neg c11] at H
              have c11b0 : decide (x21_2 < (l0.length : Int)) = false := decide_eq_false c11
              clear c11
              by_cases c27 : x2002_2 > 512
              · rw [if_pos c27] at H
                have c27b0 : decide (512 < x2002_2) = true := decide_eq_true c27
                clear c27
                simp only [Option.some.injEq, Prod.mk.injEq] at H
                obtain ⟨rfl, rfl, rfl, rfl⟩ := H
                have hcz28_0 : wr.cell? ⟨gb1, 0, none⟩ = some (u2000) := (blk_cell BK1.out 0).trans rfl
                have hcz28_1 : wr.cell? ⟨gb1, 1, none⟩ = some (u2001) := (blk_cell BK1.out 1).trans rfl
                have hcz28_2 : wr.cell? ⟨gb1, 2, none⟩ = some (.int .i64 x2002_2) := (blk_cell BK1.out 2).trans rfl
                have hfz28_0 := blk_frozen BK1.out 0
                have hfz28_1 := blk_frozen BK1.out 1
                have hfz28_2 := blk_frozen BK1.out 2
                go_wp2
                refine bodyPost_ret (results_ct rfl _ _ gb1 80 #[.slice none 0 0, .slice none 0 0, .int .i64 0] (0, 0) _ rfl (by (with_reducible repeat (first | refine blk_drewN ?_ _ | refine blk_drew ?_ | refine blk_alloc ?_ _)); refine blk_put (cs := #[.slice none 0 0, .slice none 0 0, .int .i64 x2002_2]) ?_ 2 _ rfl; (with_reducible repeat (first | refine blk_drewN ?_ _ | refine blk_drew ?_ | refine blk_alloc ?_ _)); refine blk_put (cs := #[.slice none 0 0, u2001, .int .i64 x2002_2]) ?_ 1 _ rfl; (with_reducible repeat (first | refine blk_drewN ?_ _ | refine blk_drew ?_ | refine blk_alloc ?_ _)); refine blk_put (cs := #[u2000, u2001, .int .i64 x2002_2]) ?_ 0 _ rfl; (with_reducible repeat (first | refine blk_drewN ?_ _ | refine blk_drew ?_ | refine blk_alloc ?_ _)); exact BK1.out) Tryd.underlying80 rfl (by kernel_rfl)) rfl ?_
                exact ⟨_, _, by first | rfl | (simp [errW_none, errW_some] <;> rfl) | (simp [*, errW_none, errW_some] <;> rfl), by first | exact Kd.S_nil _ _ _ _ _ | exact Kd.N_nil _ _ _ _ _ | exact Kd.V_nil _ _ _ _ _ | exact Kd.Q_nil _ _ _ _ _ | exact Kd.R_nil _ _ _ _ _, by first | exact Kd.R_nil _ _ _ _ _ | exact Kd.N_nil _ _ _ _ _ | exact Kd.V_nil _ _ _ _ _ | exact Kd.Q_nil _ _ _ _ _ | exact Kd.S_nil _ _ _ _ _, by repeat (first | (with_reducible first | exact HB.out | apply below_alloc | apply pw_below_drewN | apply below_drew1 | refine below_set ?_ GE1.out) | exact HB.out)⟩
              · rw [if_neg c27] at H
                have c27b0 : decide (512 < x2002_2) = false := decide_eq_false c27
                clear c27
                simp only [Option.some.injEq, Prod.mk.injEq] at H
                obtain ⟨rfl, rfl, rfl, rfl⟩ := H
                have hcz29_0 : wr.cell? ⟨gb1, 0, none⟩ = some (u2000) := (blk_cell BK1.out 0).trans rfl
                have hcz29_1 : wr.cell? ⟨gb1, 1, none⟩ = some (u2001) := (blk_cell BK1.out 1).trans rfl
                have hcz29_2 : wr.cell? ⟨gb1, 2, none⟩ = some (.int .i64 x2002_2) := (blk_cell BK1.out 2).trans rfl
                have hfz29_0 := blk_frozen BK1.out 0
                have hfz29_1 := blk_frozen BK1.out 1
                have hfz29_2 := blk_frozen BK1.out 2
                obtain ⟨Ao30, co30, eo30⟩ := Kd.S_slice HO_2000.out
                subst eo30
                obtain ⟨Ao31, co31, eo31⟩ := Kd.R_slice HO_2001.out
                subst eo31
                go_wp2
                refine bodyPost_ret (results_ct rfl _ _ gb1 80 #[.slice Ao30 x2000_2.length co30, .slice Ao31 x2001_2.length co31, .int .i64 x2002_2] (0, 0) _ rfl (by (with_reducible repeat (first | refine blk_drewN ?_ _ | refine blk_drew ?_ | refine blk_alloc ?_ _)); refine blk_put (cs := #[.slice Ao30 x2000_2.length co30, .slice Ao31 x2001_2.length co31, .int .i64 x2002_2]) ?_ 2 _ rfl; (with_reducible repeat (first | refine blk_drewN ?_ _ | refine blk_drew ?_ | refine blk_alloc ?_ _)); refine blk_put (cs := #[.slice Ao30 x2000_2.length co30, .slice Ao31 x2001_2.length co31, .int .i64 x2002_2]) ?_ 1 _ rfl; (with_reducible repeat (first | refine blk_drewN ?_ _ | refine blk_drew ?_ | refine blk_alloc ?_ _)); refine blk_put (cs := #[.slice Ao30 x2000_2.length co30, .slice Ao31 x2001_2.length co31, .int .i64 x2002_2]) ?_ 0 _ rfl; (with_reducible repeat (first | refine blk_drewN ?_ _ | refine blk_drew ?_ | refine blk_alloc ?_ _)); exact BK1.out) Tryd.underlying80 rfl (by kernel_rfl)) rfl ?_
                exact ⟨_, _, by first | rfl | (simp [errW_none, errW_some] <;> rfl) | (simp [*, errW_none, errW_some] <;> rfl), by (with_reducible repeat (first | apply Kd.S_alloc | apply Kd.S_drewN | apply Kd.S_drew)); exact Kd.S_mono (Kd.S_far (p := ⟨gb1, 2, none⟩) (Kd.S_far (p := ⟨gb1, 1, none⟩) (Kd.S_far (p := ⟨gb1, 0, none⟩) (Kd.S_types HO_2000.out BK1.out (by decide)) (fun _ hk => hk.2) (.slice Ao30 x2000_2.length co30)) (fun _ hk => hk.2) (.slice Ao31 x2001_2.length co31)) (fun _ hk => hk.2) (.int .i64 x2002_2)) (fun _ hk => trivial), by (with_reducible repeat (first | apply Kd.R_alloc | apply Kd.R_drewN | apply Kd.R_drew)); exact Kd.R_mono (Kd.R_far (p := ⟨gb1, 2, none⟩) (Kd.R_far (p := ⟨gb1, 1, none⟩) (Kd.R_far (p := ⟨gb1, 0, none⟩) (Kd.R_types HO_2001.out BK1.out (by decide)) (fun _ hk => hk.2) (.slice Ao30 x2000_2.length co30)) (fun _ hk => hk.2) (.slice Ao31 x2001_2.length co31)) (fun _ hk => hk.2) (.int .i64 x2002_2)) (fun _ hk => trivial), by repeat (first | (with_reducible first | exact HB.out | apply below_alloc | apply pw_below_drewN | apply below_drew1 | refine below_set ?_ GE1.out) | exact HB.out)⟩
end Go.Proofs.YtpbkdeelkpjccaaDoor.G

namespace Go.Proofs.YtpbkdeelkpjccaaDoor.G
open Go.RowKit Go.Proofs.YtpbkdeelkpjccaaDoorW.PrintWords
def bits_Len64.f (a0 : Int) : Option Int := if 0 ≤ a0 ∧ a0 ≤ 18446744073709551615 then some (Lib.bitLen a0.toNat) else none
theorem bits_Len64.calls (a0 : Int) (r : Int) (w : World) (h : bits_Len64.f a0 = some r) :
    Calls Tryd.prog 71 #[.int .u64 a0] w fun e w' => e = .returned (.int .i64 r) ∧ Drawn0 w w' := by
  unfold bits_Len64.f at h
  split at h
  · rename_i hs; obtain rfl := Option.some.inj h
    refine (Tryd.bits_Len64 a0 w hs.1 hs.2).mono ?_
    rintro e w' ⟨rfl, rfl⟩
    exact ⟨rfl, Drawn0.refl _⟩
  · cases h
end Go.Proofs.YtpbkdeelkpjccaaDoor.G
