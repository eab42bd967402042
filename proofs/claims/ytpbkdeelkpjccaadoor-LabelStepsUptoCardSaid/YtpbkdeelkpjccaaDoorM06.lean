/- Merged by merge.py out of: GlabelSteps. -/
import Derived.Test.YtpbkdeelkpjccaaDoorM03
import Derived.Test.YtpbkdeelkpjccaaDoorM05
-- Laid by xprint.py (this work's own driver of the kit's printer).
namespace Go.Proofs.YtpbkdeelkpjccaaDoor.G
open Go.RowKit Go.Proofs.YtpbkdeelkpjccaaDoorW.PrintWords Go.Proofs.YtpbkdeelkpjccaaDoorW.PrintLast Go.Proofs.YtpbkdeelkpjccaaDoorW.PrintMore
attribute [local go_sem] max2_int min2_int max_two min_two max_three min_three max_four min_four   -- for this text's walks alone
set_option linter.unusedVariables false
set_option linter.unusedSimpArgs false
mutual
def label_Steps.l0 : Nat → List (S34) → List ByteArray → Int → Int → Int → ByteArray → ByteArray → List Int → Option (List ByteArray)
  | 0, _, _, _, _, _, _, _, _ => none
  | k + 1, x1, x4, x16, x17, x2000, x2001, x2002, x2003 => if x17 < x16 then (if x2000 = 1 then ((strconv_Itoa.f x17).bind fun t5 => (if 0 ≤ x17 then (if x17 < (x4.length : Int) then (label_Steps.l0 k x1 (x4.set (x17 : Int).toNat t5) x16 (wrap64 (x17 + 1)) x2000 x2001 x2002 x2003) else (none)) else (none))) else (if x2000 = 2 then (label_Steps.j1 k x1 x4 x17 x16 x17 ((Int.tmod x17 2) == 1) x2000 x2001 x2002 x2003) else (label_Steps.j1 k x1 x4 x17 x16 x17 false x2000 x2001 x2002 x2003))) else (some x4)
def label_Steps.j1 : Nat → List (S34) → List ByteArray → Int → Int → Int → Bool → Int → ByteArray → ByteArray → List Int → Option (List ByteArray)
  | 0, _, _, _, _, _, _, _, _, _, _ => none
  | k + 1, x1, x4, x5, x16, x17, x29, x2000, x2001, x2002, x2003 => if x29 = true then (if 0 ≤ (wrap64 (x5 - 1)) then (if (wrap64 (x5 - 1)) < (x2003.length : Int) then (if (rd x2003 (wrap64 (x5 - 1))) ≥ 0 then (if (rd x2003 (wrap64 (x5 - 1))) < (x1.length : Int) then (if 0 ≤ (rd x2003 (wrap64 (x5 - 1))) then (if 0 ≤ x5 then (if x5 < (x4.length : Int) then (label_Steps.l0 k x1 (x4.set (x5 : Int).toNat ((rd_T34 x1 (rd x2003 (wrap64 (x5 - 1)))).f2)) x16 (wrap64 (x17 + 1)) x2000 x2001 x2002 x2003) else (none)) else (none)) else (none)) else (label_Steps.l0 k x1 x4 x16 (wrap64 (x17 + 1)) x2000 x2001 x2002 x2003)) else (label_Steps.l0 k x1 x4 x16 (wrap64 (x17 + 1)) x2000 x2001 x2002 x2003)) else (none)) else (none)) else (label_Steps.l0 k x1 x4 x16 (wrap64 (x17 + 1)) x2000 x2001 x2002 x2003)
end
def label_Steps.f (k : Nat) (a0_0 : Int) (a0_1 : ByteArray) (a0_2 : ByteArray) (l0_3 : List Int) (l1 : List (S34)) : Option (List ByteArray) := if a0_0 = 0 then (some ([] : List ByteArray)) else (if 0 ≤ (l0_3.length : Int) then (if ((l0_3.length : Int) : Int).toNat ≤ 17592186044416 then (label_Steps.l0 k l1 (List.replicate ((l0_3.length : Int) : Int).toNat (⟨#[]⟩ : ByteArray)) (l0_3.length : Int) 0 a0_0 a0_1 a0_2 l0_3) else (none)) else (none))
theorem label_Steps.mono_l : ∀ k, (∀ y0 y1 y2 y3 y4 y5 y6 y7, LeO (label_Steps.l0 k y0 y1 y2 y3 y4 y5 y6 y7) (label_Steps.l0 (k + 1) y0 y1 y2 y3 y4 y5 y6 y7)) ∧ (∀ y0 y1 y2 y3 y4 y5 y6 y7 y8 y9, LeO (label_Steps.j1 k y0 y1 y2 y3 y4 y5 y6 y7 y8 y9) (label_Steps.j1 (k + 1) y0 y1 y2 y3 y4 y5 y6 y7 y8 y9))
  | 0 => ⟨fun _ _ _ _ _ _ _ _ r h => by simp [label_Steps.l0] at h, fun _ _ _ _ _ _ _ _ _ _ r h => by simp [label_Steps.j1] at h⟩
  | k + 1 => by
    obtain ⟨ih0, ih1⟩ := label_Steps.mono_l k
    refine ⟨?_, ?_⟩
    · intro y0 y1 y2 y3 y4 y5 y6 y7
      unfold label_Steps.l0
      repeat' first
      | (with_reducible exact ih0 _ _ _ _ _ _ _ _)
      | (with_reducible exact ih1 _ _ _ _ _ _ _ _ _ _)
      | (with_reducible exact LeO.refl _)
      | (with_reducible exact LeO.none _)
      | (with_reducible refine LeO.ite ?_ ?_)
      | (with_reducible refine LeO.bind ?_ (fun _ => ?_))
      | exact ih0 _ _ _ _ _ _ _ _
      | exact ih1 _ _ _ _ _ _ _ _ _ _
      | exact LeO.none _
      | refine LeO.ite ?_ ?_
      | refine LeO.bind ?_ (fun _ => ?_)
    · intro y0 y1 y2 y3 y4 y5 y6 y7 y8 y9
      unfold label_Steps.j1
      repeat' first
      | (with_reducible exact ih0 _ _ _ _ _ _ _ _)
      | (with_reducible exact ih1 _ _ _ _ _ _ _ _ _ _)
      | (with_reducible exact LeO.refl _)
      | (with_reducible exact LeO.none _)
      | (with_reducible refine LeO.ite ?_ ?_)
      | (with_reducible refine LeO.bind ?_ (fun _ => ?_))
      | exact ih0 _ _ _ _ _ _ _ _
      | exact ih1 _ _ _ _ _ _ _ _ _ _
      | exact LeO.none _
      | refine LeO.ite ?_ ?_
      | refine LeO.bind ?_ (fun _ => ?_)
theorem label_Steps.mono : ∀ a0 a1 a2 a3 a4 k, LeO (label_Steps.f k a0 a1 a2 a3 a4) (label_Steps.f (k + 1) a0 a1 a2 a3 a4) := by
  intro a0 a1 a2 a3 a4 k
  obtain ⟨ih0, ih1⟩ := label_Steps.mono_l k
  unfold label_Steps.f
  repeat' first
      | (with_reducible exact ih0 _ _ _ _ _ _ _ _)
      | (with_reducible exact ih1 _ _ _ _ _ _ _ _ _ _)
      | (with_reducible exact LeO.refl _)
      | (with_reducible exact LeO.none _)
      | (with_reducible refine LeO.ite ?_ ?_)
      | (with_reducible refine LeO.bind ?_ (fun _ => ?_))
      | exact ih0 _ _ _ _ _ _ _ _
      | exact ih1 _ _ _ _ _ _ _ _ _ _
      | exact LeO.none _
      | refine LeO.ite ?_ ?_
      | refine LeO.bind ?_ (fun _ => ?_)
set_option maxHeartbeats 8000000 in
set_option maxRecDepth 100000 in
theorem label_Steps.calls (k : Nat) (a0_0 : Int) (a0_1 : ByteArray) (a0_2 : ByteArray) (A0_3 : Option Addr) (c0_3 : Nat) (l0_3 : List Int) (A1 : Option Addr) (c1 : Nat) (l1 : List (S34)) (r : List ByteArray) (w : World) (hT : Tabs w) (hr0_3 : Kd.C (Kd.int .i64) w A0_3 l0_3.length l0_3) (hc0_3 : l0_3.length ≤ c0_3) (hr1 : Kd.C k34 w A1 l1.length l1) (hc1 : l1.length ≤ c1) (h : label_Steps.f k a0_0 a0_1 a0_2 l0_3 l1 = some r) :
    Calls Tryd.prog 9 #[.agg #[.int .i64 a0_0, .string a0_1, .string a0_2, .slice A0_3 l0_3.length c0_3], .slice A1 l1.length c1] w fun e w' => ∃ v0_ : Value, e = .returned (v0_) ∧ Kd.R Kd.string 9 w' w.heap.size (fun _ => True) v0_ r ∧ Below w.heap.size w w' := by
  have hu34 := Tryd.underlying34
  have HR0_3 := Aside0.mk hr0_3
  have HC0_3 := Aside0.mk hc0_3
  clear hr0_3 hc0_3
  have HR1 := Aside0.mk hr1
  have HC1 := Aside0.mk hc1
  clear hr1 hc1
  have HT := Aside0.mk hT
  clear hT
  have HB := Aside0.mk (Below.refl w.heap.size w)
  have H : (if a0_0 = 0 then (some ([] : List ByteArray)) else (if 0 ≤ (l0_3.length : Int) then (if ((l0_3.length : Int) : Int).toNat ≤ 17592186044416 then (label_Steps.l0 k l1 (List.replicate ((l0_3.length : Int) : Int).toNat (⟨#[]⟩ : ByteArray)) (l0_3.length : Int) 0 a0_0 a0_1 a0_2 l0_3) else (none)) else (none))) = some r := h
  clear h
  by_cases c3 : a0_0 = 0
  · rw [if_pos c3] at H
    have c3b0 : (a0_0 == 0) = true := beq_iff_eq.mpr c3
    have c3b1 : (a0_0 != 0) = false := bne_eq_false_iff_eq.mpr c3
    clear c3
    obtain rfl := Option.some.inj H
    go_enter Tryd.func9, Tryd.ntmps9
    go_wp2_with (first | ((with_reducible refine gate_dst (N := 2) rfl ?_); (try (refine gate_guard (by rfl) ?_; dsimp only)); refine box_event ?hg (N := 2) ?hd (cs := #[.int .i64 a0_0, .string a0_1, .string a0_2, .slice A0_3 l0_3.length c0_3]) (t := 34) ?hr ?_; (case hd => rfl); (case hg => rfl); (case hr => first | (go_simp; done) | (go_simp; rfl)); intro gb1 hg w4 hbox hb; have n0_ := Aside0.mk (below_step (by repeat (first | (with_reducible first | exact HB.out | apply below_alloc | apply pw_below_drewN | apply below_drew1) | exact HB.out)) hb); have n1_ := Aside0.mk (hbox); have n2_ := Aside0.mk ((by rw [hg]; exact (below_size (by repeat (first | (with_reducible first | exact HB.out | apply below_alloc | apply pw_below_drewN | apply below_drew1) | exact HB.out))) : w.heap.size ≤ gb1)); have n3_ := Aside0.mk ((by rw [hg]; exact (below_size (by repeat (first | (with_reducible first | exact HB.out | apply below_alloc | apply pw_below_drewN | apply below_drew1) | exact HB.out))) : w.heap.size ≤ gb1)); clear HB; have HB := n0_; have BK1 := n1_; have GW1 := n2_; have GE1 := n3_; clear n0_ n1_ n2_ n3_; clear hb hbox hg; have hcz5_0 : w4.cell? ⟨gb1, 0, none⟩ = some (.int .i64 a0_0) := (blk_cell BK1.out 0).trans rfl; have hcz5_1 : w4.cell? ⟨gb1, 1, none⟩ = some (.string a0_1) := (blk_cell BK1.out 1).trans rfl; have hcz5_2 : w4.cell? ⟨gb1, 2, none⟩ = some (.string a0_2) := (blk_cell BK1.out 2).trans rfl; have hcz5_3 : w4.cell? ⟨gb1, 3, none⟩ = some (.slice A0_3 l0_3.length c0_3) := (blk_cell BK1.out 3).trans rfl; have hfz5_0 := blk_frozen BK1.out 0; have hfz5_1 := blk_frozen BK1.out 1; have hfz5_2 := blk_frozen BK1.out 2; have hfz5_3 := blk_frozen BK1.out 3))
    go_ret
    exact ⟨_, by first | rfl | (simp [errW_none, errW_some] <;> rfl) | (simp [*, errW_none, errW_some] <;> rfl), by first | exact Kd.R_nil _ _ _ _ _ | exact Kd.N_nil _ _ _ _ _ | exact Kd.V_nil _ _ _ _ _ | exact Kd.Q_nil _ _ _ _ _ | exact Kd.S_nil _ _ _ _ _, by repeat (first | (with_reducible first | exact HB.out | apply below_alloc | apply pw_below_drewN | apply below_drew1 | refine below_set ?_ GE1.out) | exact HB.out)⟩
  · rw [if_neg c3] at H
    have c3b0 : (a0_0 == 0) = false := beq_eq_false_iff_ne.mpr c3
    have c3b1 : (a0_0 != 0) = true := bne_iff_ne.mpr c3
    by_cases c6 : 0 ≤ (l0_3.length : Int)
    · rw [if_pos c6] at H
      have c6b0 := eq_true c6
      have c6b1 : decide (0 ≤ (l0_3.length : Int)) = true := decide_eq_true c6
      clear c6
      by_cases c7 : ((l0_3.length : Int) : Int).toNat ≤ 17592186044416
      · rw [if_pos c7] at H
        have c7b0 := eq_true c7
        have c7b1 : decide (((l0_3.length : Int) : Int).toNat ≤ 17592186044416) = true := decide_eq_true c7
        clear c7
        obtain ⟨y2, hy2⟩ : ∃ y_ : List ByteArray, y_ = (List.replicate ((l0_3.length : Int) : Int).toNat (⟨#[]⟩ : ByteArray)) := ⟨_, rfl⟩
        replace H : (label_Steps.l0 k l1 y2 (l0_3.length : Int) 0 a0_0 a0_1 a0_2 l0_3) = some r := by first | (rw [hy2]; with_reducible exact H) | (have H2_ := (Option.bind_some _ _).symm.trans H; rw [hy2]; with_reducible exact H2_) | (have H2_ := (Option.bind_some _ _).symm.trans H; with_reducible exact H2_) | with_reducible exact H | (rw [hy2]; exact H) | exact H
        have Ny2 := Aside0.mk hy2
        clear hy2
        have H' := Aside0.mk H
        clear H
        go_enter Tryd.func9, Tryd.ntmps9
        go_wp2_with (first | ((with_reducible refine gate_dst (N := 2) rfl ?_); (try (refine gate_guard (by rfl) ?_; dsimp only)); refine box_event ?hg (N := 2) ?hd (cs := #[.int .i64 a0_0, .string a0_1, .string a0_2, .slice A0_3 l0_3.length c0_3]) (t := 34) ?hr ?_; (case hd => rfl); (case hg => rfl); (case hr => first | (go_simp; done) | (go_simp; rfl)); intro gb1 hg w8 hbox hb; have n0_ := Aside0.mk (below_step (by repeat (first | (with_reducible first | exact HB.out | apply below_alloc | apply pw_below_drewN | apply below_drew1) | exact HB.out)) hb); have n1_ := Aside0.mk (hbox); have n2_ := Aside0.mk ((by rw [hg]; exact (below_size (by repeat (first | (with_reducible first | exact HB.out | apply below_alloc | apply pw_below_drewN | apply below_drew1) | exact HB.out))) : w.heap.size ≤ gb1)); have n3_ := Aside0.mk ((by rw [hg]; exact (below_size (by repeat (first | (with_reducible first | exact HB.out | apply below_alloc | apply pw_below_drewN | apply below_drew1) | exact HB.out))) : w.heap.size ≤ gb1)); clear HB; have HB := n0_; have BK1 := n1_; have GW1 := n2_; have GE1 := n3_; clear n0_ n1_ n2_ n3_; clear hb hbox hg; have hcz9_0 : w8.cell? ⟨gb1, 0, none⟩ = some (.int .i64 a0_0) := (blk_cell BK1.out 0).trans rfl; have hcz9_1 : w8.cell? ⟨gb1, 1, none⟩ = some (.string a0_1) := (blk_cell BK1.out 1).trans rfl; have hcz9_2 : w8.cell? ⟨gb1, 2, none⟩ = some (.string a0_2) := (blk_cell BK1.out 2).trans rfl; have hcz9_3 : w8.cell? ⟨gb1, 3, none⟩ = some (.slice A0_3 l0_3.length c0_3) := (blk_cell BK1.out 3).trans rfl; have hfz9_0 := blk_frozen BK1.out 0; have hfz9_1 := blk_frozen BK1.out 1; have hfz9_2 := blk_frozen BK1.out 2; have hfz9_3 := blk_frozen BK1.out 3) | ((with_reducible refine gate_dst (N := 13) rfl ?_); (try (refine gate_guard (by rfl) ?_; dsimp only)); refine Kd.R_make Kd.string _ 9 rfl (N := 13) rfl 32 _ _ rfl (l0_3.length : Int) rfl rfl Tryd.underlying32 (.string ⟨#[]⟩) 16 info9 rfl (by decide) (by omega) (⟨#[]⟩ : ByteArray) (ok := fun _ => True) (okp := fun _ => True) rfl (fun _ hk => hk) trivial (of_decide_eq_true (by first | (with_reducible assumption) | assumption)) (Nat.le_trans (Nat.mul_le_mul_right _ (of_decide_eq_true (by first | (with_reducible assumption) | assumption) : (l0_3.length : Int).toNat ≤ 17592186044416)) (by omega)) (Below.refl _ _) (Nat.le_refl _) ?_; intro v3 w10 ho11 hb hg_ hnew_; clear hg_ hnew_; (first | rw [← Ny2.out] at ho11 | (simp only [Int.reduceToNat] at ho11; rw [← Ny2.out] at ho11)); have n0_ := Aside0.mk (Kd.R_lower ho11 (below_size (by repeat (first | (with_reducible first | exact HB.out | apply below_alloc | apply pw_below_drewN | apply below_drew1 | refine below_set ?_ GE1.out) | exact HB.out)))); have n1_ := Aside0.mk (blk_below (g := gb1) (o := .cells #[.int .i64 a0_0, .string a0_1, .string a0_2, .slice A0_3 l0_3.length c0_3] 34 (0, 0)) (by (with_reducible repeat (first | refine blk_drewN ?_ _ | refine blk_drew ?_ | refine blk_alloc ?_ _)); exact BK1.out) hb); have n2_ := Aside0.mk (below_step (by repeat (first | (with_reducible first | exact HB.out | apply below_alloc | apply pw_below_drewN | apply below_drew1 | refine below_set ?_ GE1.out) | exact HB.out)) hb); clear BK1; clear HB; have HO4 := n0_; have BK1 := n1_; have HB := n2_; clear n0_ n1_ n2_; clear hb ho11; have hcz12_0 : w10.cell? ⟨gb1, 0, none⟩ = some (.int .i64 a0_0) := (blk_cell BK1.out 0).trans rfl; have hcz12_1 : w10.cell? ⟨gb1, 1, none⟩ = some (.string a0_1) := (blk_cell BK1.out 1).trans rfl; have hcz12_2 : w10.cell? ⟨gb1, 2, none⟩ = some (.string a0_2) := (blk_cell BK1.out 2).trans rfl; have hcz12_3 : w10.cell? ⟨gb1, 3, none⟩ = some (.slice A0_3 l0_3.length c0_3) := (blk_cell BK1.out 3).trans rfl; have hfz12_0 := blk_frozen BK1.out 0; have hfz12_1 := blk_frozen BK1.out 1; have hfz12_2 := blk_frozen BK1.out 2; have hfz12_3 := blk_frozen BK1.out 3))
        go_loopg [17] k (fun kq v17 w' => ∃ (x4_1 : List ByteArray) (x17_1 : Int), v17 = .int .i64 x17_1 ∧ Aside0 (label_Steps.l0 kq l1 x4_1 (l0_3.length : Int) x17_1 a0_0 a0_1 a0_2 l0_3 = some r) ∧ Aside0 (kq ≤ k) ∧ Aside0 (Kd.R Kd.string 9 w' w.heap.size (fun _ => True) v3 x4_1) ∧ Aside0 (w'.heap[gb1]? = some (.cells #[.int .i64 a0_0, .string a0_1, .string a0_2, (.slice A0_3 l0_3.length c0_3)] 34 (0, 0))) ∧ Aside0 (Below w.heap.size w w'))
        case atStart => exact ⟨(y2), (0), (by first | rfl | (simp; done) | (simp [*]; done)), H', ⟨Nat.le_refl _⟩, ⟨by (with_reducible repeat (first | apply Kd.R_alloc | apply Kd.R_drewN | apply Kd.R_drew)); exact HO4.out⟩, ⟨by (with_reducible repeat (first | refine blk_drewN ?_ _ | refine blk_drew ?_ | refine blk_alloc ?_ _)); exact BK1.out⟩, ⟨by repeat (first | (with_reducible first | exact HB.out | apply below_alloc | apply pw_below_drewN | apply below_drew1 | refine below_set ?_ GE1.out) | exact HB.out)⟩⟩
        case round =>
          clear H'
          try clear c1
          try clear p2
          try clear c3
          try clear c3b0
          try clear c3b1
          try clear c6
          try clear c6b0
          try clear c6b1
          try clear c7
          try clear c7b0
          try clear c7b1
          try clear c9
          try clear hcz12_0
          try clear hcz12_1
          try clear hcz12_2
          try clear hcz12_3
          try clear hcz5_0
          try clear hcz5_1
          try clear hcz5_2
          try clear hcz5_3
          try clear hcz9_0
          try clear hcz9_1
          try clear hcz9_2
          try clear hcz9_3
          try clear hfz12_0
          try clear hfz12_1
          try clear hfz12_2
          try clear hfz12_3
          try clear hfz5_0
          try clear hfz5_1
          try clear hfz5_2
          try clear hfz5_3
          try clear hfz9_0
          try clear hfz9_1
          try clear hfz9_2
          try clear hfz9_3
          obtain ⟨x4_1, x17_1, rfl, HA, HK1, HO_4, BK1, HB⟩ := hrel
          cases gk with
          | zero => exact absurd HA.out (by simp [label_Steps.l0])
          | succ k1 =>
            have H := HA.out
            clear HA
            simp only [label_Steps.l0] at H
            by_cases c13 : x17_1 < (l0_3.length : Int)
            · rw [if_pos c13] at H
              have c13b0 : decide (x17_1 < (l0_3.length : Int)) = true := decide_eq_true c13
              clear c13
              by_cases c14 : a0_0 = 1
              · rw [if_pos c14] at H
                have c14b0 : (a0_0 == 1) = true := beq_iff_eq.mpr c14
                have c14b1 : (a0_0 != 1) = false := bne_eq_false_iff_eq.mpr c14
                clear c14
                replace H := Option.bind_eq_some_iff.mp H
                obtain ⟨t5, A150, H⟩ := H
                replace H : (if 0 ≤ x17_1 then (if x17_1 < (x4_1.length : Int) then (label_Steps.l0 k1 l1 (x4_1.set (x17_1 : Int).toNat t5) (l0_3.length : Int) (wrap64 (x17_1 + 1)) a0_0 a0_1 a0_2 l0_3) else (none)) else (none)) = some r := H
                have A15 := Aside0.mk A150
                clear A150
                by_cases c16 : 0 ≤ x17_1
                · rw [if_pos c16] at H
                  have c16b0 : decide (0 ≤ x17_1) = true := decide_eq_true c16
                  clear c16
                  by_cases c17 : x17_1 < (x4_1.length : Int)
                  · rw [if_pos c17] at H
                    have c17b0 : decide (x17_1 < (x4_1.length : Int)) = true := decide_eq_true c17
                    clear c17
                    obtain ⟨y6, hy6⟩ : ∃ y_ : List ByteArray, y_ = (x4_1.set (x17_1 : Int).toNat t5) := ⟨_, rfl⟩
                    replace H : (label_Steps.l0 k1 l1 y6 (l0_3.length : Int) (wrap64 (x17_1 + 1)) a0_0 a0_1 a0_2 l0_3) = some r := by first | (rw [hy6]; with_reducible exact H) | (have H2_ := (Option.bind_some _ _).symm.trans H; rw [hy6]; with_reducible exact H2_) | (have H2_ := (Option.bind_some _ _).symm.trans H; with_reducible exact H2_) | with_reducible exact H | (rw [hy6]; exact H) | exact H
                    have Ny6 := Aside0.mk hy6
                    clear hy6
                    have H' := Aside0.mk H
                    clear H
                    have hcz19_0 : wr.cell? ⟨gb1, 0, none⟩ = some (.int .i64 a0_0) := (blk_cell BK1.out 0).trans rfl
                    have hcz19_1 : wr.cell? ⟨gb1, 1, none⟩ = some (.string a0_1) := (blk_cell BK1.out 1).trans rfl
                    have hcz19_2 : wr.cell? ⟨gb1, 2, none⟩ = some (.string a0_2) := (blk_cell BK1.out 2).trans rfl
                    have hcz19_3 : wr.cell? ⟨gb1, 3, none⟩ = some (.slice A0_3 l0_3.length c0_3) := (blk_cell BK1.out 3).trans rfl
                    have hfz19_0 := blk_frozen BK1.out 0
                    have hfz19_1 := blk_frozen BK1.out 1
                    have hfz19_2 := blk_frozen BK1.out 2
                    have hfz19_3 := blk_frozen BK1.out 3
                    go_wp2_with (first | ((with_reducible refine gate_callee (f := 20) rfl ?_); refine goesL_ (some 27) rfl rfl Tryd.func20 (by kernel_rfl) rfl #[.int .i64 x17_1] rfl (by (try simp only [List.map_toArray, List.map_cons, List.map_nil]); first | done | rfl | (simp only [List.length_drop, List.length_take]; rfl)) ?_; (with_reducible refine (strconv_Itoa.calls x17_1 t5 _ ?side1 A15.out).mono ?_); (case side1 => exact Tabs.below HT.out (by repeat (first | (with_reducible first | exact HB.out | apply below_alloc | apply pw_below_drewN | apply below_drew1 | refine below_set ?_ GE1.out) | exact HB.out))); rintro e w20 ⟨rfl, hb⟩; refine ⟨_, rfl, ?_⟩; have n0_ := Aside0.mk (Kd.R_below (by (with_reducible repeat (first | apply Kd.R_alloc | apply Kd.R_drewN | apply Kd.R_drew)); exact HO_4.out) hb); have n1_ := Aside0.mk (blk_below (g := gb1) (o := .cells #[.int .i64 a0_0, .string a0_1, .string a0_2, .slice A0_3 l0_3.length c0_3] 34 (0, 0)) (by (with_reducible repeat (first | refine blk_drewN ?_ _ | refine blk_drew ?_ | refine blk_alloc ?_ _)); exact BK1.out) hb); have n2_ := Aside0.mk (below_step (by repeat (first | (with_reducible first | exact HB.out | apply below_alloc | apply pw_below_drewN | apply below_drew1 | refine below_set ?_ GE1.out) | exact HB.out)) hb); clear HO_4; clear BK1; clear HB; have HO_4 := n0_; have BK1 := n1_; have HB := n2_; clear n0_ n1_ n2_; (try clear hb); (try clear hb2); (try clear hk); (try clear hi); have p18 : 0 ≤ (x17_1 : Int) := of_decide_eq_true (by first | (with_reducible assumption) | assumption); have q18 : (x17_1 : Int) < ((x4_1.length : Int) : Int) := of_decide_eq_true (by first | (with_reducible assumption) | assumption); obtain ⟨go18, co18, eo18, gb18, gl18, cl18, HG18⟩ := Kd.R_form HO_4.out (by omega); (first | cases eo18 | (injection eo18 with ea_ en_ ec_; (first | subst ea_ | (injection ea_ with ea_; subst ea_)); subst ec_; clear en_)); have GB18 := Aside0.mk gb18; have GG18 := Aside0.mk HG18; clear gb18 gl18 HG18; obtain ⟨hx18_0, hf18_0⟩ := Kd.R_celln (⟨#[]⟩ : ByteArray) HO_4.out (x17_1 : Int) p18 q18; replace p18 := eq_true p18; replace q18 := eq_true q18; obtain ⟨hy21_, hz21_⟩ := Kd.R_celln (⟨#[]⟩ : ByteArray) HO_4.out (x17_1 : Int) (of_decide_eq_true (by first | (with_reducible assumption) | assumption)) (of_decide_eq_true (by first | (with_reducible assumption) | assumption)); have HP21 := Kd.R_putg HO_4.out (x17_1 : Int) t5) | ((with_reducible refine gate_store (t := 9) (p := 28) rfl ?_); refine store_event (t := 9) (p := 28) (v := ?vo_w22) (w1 := (w20.setCell ⟨go18, (x17_1 : Int).toNat, none⟩ (.string t5))) ?hg ?ho ?hn ?hr ?_; (case ho => rfl); (case hg => rfl); (case hn => rfl); (case hr => first | (go_simp; done) | (go_simp; rfl)); intro w22 hw; have hg : w20.grownBy w22 (some go18) := (by rw [hw]; exact HP21.2); have hp_ : Kd.R Kd.string 9 w22 w.heap.size (fun _ => True) (.slice (some ⟨go18, 0, none⟩) x4_1.length co18) y6 := (by rw [hw, Ny6.out]; exact HP21.1); clear HP21; have n0_ := Aside0.mk (hp_); have n1_ := Aside0.mk (blk_grown (g := gb1) (o := .cells #[.int .i64 a0_0, .string a0_1, .string a0_2, .slice A0_3 l0_3.length c0_3] 34 (0, 0)) (by (with_reducible repeat (first | refine blk_drewN ?_ _ | refine blk_drew ?_ | refine blk_alloc ?_ _)); exact BK1.out) hg (Kd.R_ne HO_4.out BK1.out (by decide))); have n2_ := Aside0.mk ((by rw [hw]; exact below_set (HB.out) GB18.out : Below w.heap.size w w22)); clear HO_4; clear BK1; clear HB; have HO_4 := n0_; have BK1 := n1_; have HB := n2_; clear n0_ n1_ n2_; clear hg hw hp_))
                    go_roundg k1
                    case measure => have := HK1.out; omega
                    case rel => exact ⟨(y6), (wrap64 (x17_1 + 1)), (by first | rfl | (simp; done) | (simp [*]; done)), H', ⟨by have := HK1.out; omega⟩, ⟨by (with_reducible repeat (first | apply Kd.R_alloc | apply Kd.R_drewN | apply Kd.R_drew)); exact HO_4.out⟩, ⟨by (with_reducible repeat (first | refine blk_drewN ?_ _ | refine blk_drew ?_ | refine blk_alloc ?_ _)); exact BK1.out⟩, ⟨by repeat (first | (with_reducible first | exact HB.out | apply below_alloc | apply pw_below_drewN | apply below_drew1 | refine below_set ?_ GE1.out) | exact HB.out)⟩⟩
                  · rw [if_neg c17] at H
                    exact absurd H (by simp)
                · rw [if_neg c16] at H
                  exact absurd H (by simp)
              · rw [if_neg c14] at H
                have c14b0 : (a0_0 == 1) = false := beq_eq_false_iff_ne.mpr c14
                have c14b1 : (a0_0 != 1) = true := bne_iff_ne.mpr c14
                have HC23 := Aside0.mk H
                clear H
                have hcz24_0 : wr.cell? ⟨gb1, 0, none⟩ = some (.int .i64 a0_0) := (blk_cell BK1.out 0).trans rfl
                have hcz24_1 : wr.cell? ⟨gb1, 1, none⟩ = some (.string a0_1) := (blk_cell BK1.out 1).trans rfl
                have hcz24_2 : wr.cell? ⟨gb1, 2, none⟩ = some (.string a0_2) := (blk_cell BK1.out 2).trans rfl
                have hcz24_3 : wr.cell? ⟨gb1, 3, none⟩ = some (.slice A0_3 l0_3.length c0_3) := (blk_cell BK1.out 3).trans rfl
                have hfz24_0 := blk_frozen BK1.out 0
                have hfz24_1 := blk_frozen BK1.out 1
                have hfz24_2 := blk_frozen BK1.out 2
                have hfz24_3 := blk_frozen BK1.out 3
                go_upto_region 9 with (fail)
                go_cut [29] (fun v29 wc => ∃ (kq : Nat) (x29_22 : Bool), v29 = .bool x29_22 ∧ Aside0 (label_Steps.j1 kq l1 x4_1 x17_1 (l0_3.length : Int) x17_1 x29_22 a0_0 a0_1 a0_2 l0_3 = some r) ∧ Aside0 (kq ≤ k1) ∧ Aside0 (Kd.R Kd.string 9 wc w.heap.size (fun _ => True) v3 x4_1) ∧ Aside0 (wc.heap[gb1]? = some (.cells #[.int .i64 a0_0, .string a0_1, .string a0_2, (.slice A0_3 l0_3.length c0_3)] 34 (0, 0))) ∧ Aside0 (Below w.heap.size w wc))
                case first =>
                  have H := HC23.out
                  clear HC23
                  by_cases c25 : a0_0 = 2
                  · rw [if_pos c25] at H
                    have c25b0 : (a0_0 == 2) = true := beq_iff_eq.mpr c25
                    have c25b1 : (a0_0 != 2) = false := bne_eq_false_iff_eq.mpr c25
                    clear c25
                    (first | rw [c25b0] | (simp only [i64_w, i32_w]; rw [c25b0]) | skip)
                    have H' := Aside0.mk H
                    clear H
                    have hcz26_0 : wr.cell? ⟨gb1, 0, none⟩ = some (.int .i64 a0_0) := (blk_cell BK1.out 0).trans rfl
                    have hcz26_1 : wr.cell? ⟨gb1, 1, none⟩ = some (.string a0_1) := (blk_cell BK1.out 1).trans rfl
                    have hcz26_2 : wr.cell? ⟨gb1, 2, none⟩ = some (.string a0_2) := (blk_cell BK1.out 2).trans rfl
                    have hcz26_3 : wr.cell? ⟨gb1, 3, none⟩ = some (.slice A0_3 l0_3.length c0_3) := (blk_cell BK1.out 3).trans rfl
                    have hfz26_0 := blk_frozen BK1.out 0
                    have hfz26_1 := blk_frozen BK1.out 1
                    have hfz26_2 := blk_frozen BK1.out 2
                    have hfz26_3 := blk_frozen BK1.out 3
                    go_wp2
                    go_meet
                    case rel => exact ⟨_, (((Int.tmod x17_1 2) == 1)), (by first | rfl | (simp; done) | (simp [*]; done)), H', ⟨by have := HK1.out; first | omega | exact Nat.le_refl _⟩, ⟨by (with_reducible repeat (first | apply Kd.R_alloc | apply Kd.R_drewN | apply Kd.R_drew)); exact HO_4.out⟩, ⟨by (with_reducible repeat (first | refine blk_drewN ?_ _ | refine blk_drew ?_ | refine blk_alloc ?_ _)); exact BK1.out⟩, ⟨by repeat (first | (with_reducible first | exact HB.out | apply below_alloc | apply pw_below_drewN | apply below_drew1 | refine below_set ?_ GE1.out) | exact HB.out)⟩⟩
                  · rw [if_neg c25] at H
                    have c25b0 : (a0_0 == 2) = false := beq_eq_false_iff_ne.mpr c25
                    have c25b1 : (a0_0 != 2) = true := bne_iff_ne.mpr c25
                    (first | rw [c25b0] | (simp only [i64_w, i32_w]; rw [c25b0]) | skip)
                    have H' := Aside0.mk H
                    clear H
                    have hcz27_0 : wr.cell? ⟨gb1, 0, none⟩ = some (.int .i64 a0_0) := (blk_cell BK1.out 0).trans rfl
                    have hcz27_1 : wr.cell? ⟨gb1, 1, none⟩ = some (.string a0_1) := (blk_cell BK1.out 1).trans rfl
                    have hcz27_2 : wr.cell? ⟨gb1, 2, none⟩ = some (.string a0_2) := (blk_cell BK1.out 2).trans rfl
                    have hcz27_3 : wr.cell? ⟨gb1, 3, none⟩ = some (.slice A0_3 l0_3.length c0_3) := (blk_cell BK1.out 3).trans rfl
                    have hfz27_0 := blk_frozen BK1.out 0
                    have hfz27_1 := blk_frozen BK1.out 1
                    have hfz27_2 := blk_frozen BK1.out 2
                    have hfz27_3 := blk_frozen BK1.out 3
                    go_wp2
                    go_meet
                    case rel => exact ⟨_, (false), (by first | rfl | (simp; done) | (simp [*]; done)), H', ⟨by have := HK1.out; first | omega | exact Nat.le_refl _⟩, ⟨by (with_reducible repeat (first | apply Kd.R_alloc | apply Kd.R_drewN | apply Kd.R_drew)); exact HO_4.out⟩, ⟨by (with_reducible repeat (first | refine blk_drewN ?_ _ | refine blk_drew ?_ | refine blk_alloc ?_ _)); exact BK1.out⟩, ⟨by repeat (first | (with_reducible first | exact HB.out | apply below_alloc | apply pw_below_drewN | apply below_drew1 | refine below_set ?_ GE1.out) | exact HB.out)⟩⟩
                case rest =>
                  clear HC23
                  try clear c1
                  try clear p1
                  try clear q1
                  try clear hx1
                  try clear c2
                  try clear p2
                  try clear c3
                  try clear c3b0
                  try clear c3b1
                  try clear c6
                  try clear c6b0
                  try clear c6b1
                  try clear p6
                  try clear c7
                  try clear c7b0
                  try clear c7b1
                  try clear c9
                  try clear c13
                  try clear c13b0
                  try clear c14
                  try clear c14b0
                  try clear c14b1
                  try clear c16
                  try clear c16b0
                  try clear c17
                  try clear c17b0
                  try clear p18
                  try clear q18
                  try clear hx18
                  try clear hf18
                  try clear c20
                  try clear c25
                  try clear c25b0
                  try clear c25b1
                  try clear hcz12_0
                  try clear hcz12_1
                  try clear hcz12_2
                  try clear hcz12_3
                  try clear hcz19_0
                  try clear hcz19_1
                  try clear hcz19_2
                  try clear hcz19_3
                  try clear hcz24_0
                  try clear hcz24_1
                  try clear hcz24_2
                  try clear hcz24_3
                  try clear hcz26_0
                  try clear hcz26_1
                  try clear hcz26_2
                  try clear hcz26_3
                  try clear hcz27_0
                  try clear hcz27_1
                  try clear hcz27_2
                  try clear hcz27_3
                  try clear hcz5_0
                  try clear hcz5_1
                  try clear hcz5_2
                  try clear hcz5_3
                  try clear hcz9_0
                  try clear hcz9_1
                  try clear hcz9_2
                  try clear hcz9_3
                  try clear hfz12_0
                  try clear hfz12_1
                  try clear hfz12_2
                  try clear hfz12_3
                  try clear hfz19_0
                  try clear hfz19_1
                  try clear hfz19_2
                  try clear hfz19_3
                  try clear hfz24_0
                  try clear hfz24_1
                  try clear hfz24_2
                  try clear hfz24_3
                  try clear hfz26_0
                  try clear hfz26_1
                  try clear hfz26_2
                  try clear hfz26_3
                  try clear hfz27_0
                  try clear hfz27_1
                  try clear hfz27_2
                  try clear hfz27_3
                  try clear hfz5_0
                  try clear hfz5_1
                  try clear hfz5_2
                  try clear hfz5_3
                  try clear hfz9_0
                  try clear hfz9_1
                  try clear hfz9_2
                  try clear hfz9_3
                  try clear hx18_0
                  try clear p18
                  try clear p2
                  try clear q18
                  obtain ⟨kq, x29_22, rfl, HA, HJ22, HO_4, BK1, HB⟩ := hcut
                  cases kq with
                  | zero => exact absurd HA.out (by simp [label_Steps.j1])
                  | succ kj22 =>
                    have H := HA.out
                    clear HA
                    simp only [label_Steps.j1] at H
                    by_cases c28 : x29_22 = true
                    · subst c28
                      have H1 : (if 0 ≤ (wrap64 (x17_1 - 1)) then (if (wrap64 (x17_1 - 1)) < (l0_3.length : Int) then (if (rd l0_3 (wrap64 (x17_1 - 1))) ≥ 0 then (if (rd l0_3 (wrap64 (x17_1 - 1))) < (l1.length : Int) then (if 0 ≤ (rd l0_3 (wrap64 (x17_1 - 1))) then (if 0 ≤ x17_1 then (if x17_1 < (x4_1.length : Int) then (label_Steps.l0 kj22 l1 (x4_1.set (x17_1 : Int).toNat ((rd_T34 l1 (rd l0_3 (wrap64 (x17_1 - 1)))).f2)) (l0_3.length : Int) (wrap64 (x17_1 + 1)) a0_0 a0_1 a0_2 l0_3) else (none)) else (none)) else (none)) else (label_Steps.l0 kj22 l1 x4_1 (l0_3.length : Int) (wrap64 (x17_1 + 1)) a0_0 a0_1 a0_2 l0_3)) else (label_Steps.l0 kj22 l1 x4_1 (l0_3.length : Int) (wrap64 (x17_1 + 1)) a0_0 a0_1 a0_2 l0_3)) else (none)) else (none)) = some r := by rw [if_pos rfl] at H; exact H
                      clear H
                      have H := H1
                      clear H1
                      obtain ⟨ji29, hji29⟩ : ∃ j_ : Int, (wrap64 (x17_1 - 1)) = j_ := ⟨_, rfl⟩
                      replace H : (if 0 ≤ (ji29) then (if (ji29) < (l0_3.length : Int) then (if (rd l0_3 (ji29)) ≥ 0 then (if (rd l0_3 (ji29)) < (l1.length : Int) then (if 0 ≤ (rd l0_3 (ji29)) then (if 0 ≤ x17_1 then (if x17_1 < (x4_1.length : Int) then (label_Steps.l0 kj22 l1 (x4_1.set (x17_1 : Int).toNat ((rd_T34 l1 (rd l0_3 (ji29))).f2)) (l0_3.length : Int) (wrap64 (x17_1 + 1)) a0_0 a0_1 a0_2 l0_3) else (none)) else (none)) else (none)) else (label_Steps.l0 kj22 l1 x4_1 (l0_3.length : Int) (wrap64 (x17_1 + 1)) a0_0 a0_1 a0_2 l0_3)) else (label_Steps.l0 kj22 l1 x4_1 (l0_3.length : Int) (wrap64 (x17_1 + 1)) a0_0 a0_1 a0_2 l0_3)) else (none)) else (none)) = some r := by first | (rw [hji29] at H; exact H) | (simp only [hji29] at H ⊢; exact H)
                      have hji29w : (IntKind.i64.wrap (x17_1 - 1)) = ji29 := (i64_w _).trans hji29
                      by_cases c30 : 0 ≤ (ji29)
                      · rw [if_pos c30] at H
                        have c30b0 : decide (0 ≤ (ji29)) = true := decide_eq_true c30
                        clear c30
                        by_cases c31 : (ji29) < (l0_3.length : Int)
                        · rw [if_pos c31] at H
                          have c31b0 : decide ((ji29) < (l0_3.length : Int)) = true := decide_eq_true c31
                          clear c31
                          by_cases c32 : (rd l0_3 (ji29)) ≥ 0
                          · rw [if_pos c32] at H
                            have c32b0 : decide (0 ≤ (rd l0_3 (ji29))) = true := decide_eq_true c32
                            clear c32
                            by_cases c33 : (rd l0_3 (ji29)) < (l1.length : Int)
                            · rw [if_pos c33] at H
                              have c33b0 : decide ((rd l0_3 (ji29)) < (l1.length : Int)) = true := decide_eq_true c33
                              clear c33
                              by_cases c34 : 0 ≤ (rd l0_3 (ji29))
                              · rw [if_pos c34] at H
                                have c34b0 : decide (0 ≤ (rd l0_3 (ji29))) = true := decide_eq_true c34
                                clear c34
                                by_cases c35 : 0 ≤ x17_1
                                · rw [if_pos c35] at H
                                  have c35b0 : decide (0 ≤ x17_1) = true := decide_eq_true c35
                                  clear c35
                                  by_cases c36 : x17_1 < (x4_1.length : Int)
                                  · rw [if_pos c36] at H
                                    have c36b0 : decide (x17_1 < (x4_1.length : Int)) = true := decide_eq_true c36
                                    clear c36
                                    obtain ⟨y9, hy9⟩ : ∃ y_ : List ByteArray, y_ = (x4_1.set (x17_1 : Int).toNat ((rd_T34 l1 (rd l0_3 (ji29))).f2)) := ⟨_, rfl⟩
                                    replace H : (label_Steps.l0 kj22 l1 y9 (l0_3.length : Int) (wrap64 (x17_1 + 1)) a0_0 a0_1 a0_2 l0_3) = some r := by first | (rw [hy9]; with_reducible exact H) | (have H2_ := (Option.bind_some _ _).symm.trans H; rw [hy9]; with_reducible exact H2_) | (have H2_ := (Option.bind_some _ _).symm.trans H; with_reducible exact H2_) | with_reducible exact H | (rw [hy9]; exact H) | exact H
                                    have Ny9 := Aside0.mk hy9
                                    clear hy9
                                    have H' := Aside0.mk H
                                    clear H
                                    have hcz38_0 : wc.cell? ⟨gb1, 0, none⟩ = some (.int .i64 a0_0) := (blk_cell BK1.out 0).trans rfl
                                    have hcz38_1 : wc.cell? ⟨gb1, 1, none⟩ = some (.string a0_1) := (blk_cell BK1.out 1).trans rfl
                                    have hcz38_2 : wc.cell? ⟨gb1, 2, none⟩ = some (.string a0_2) := (blk_cell BK1.out 2).trans rfl
                                    have hcz38_3 : wc.cell? ⟨gb1, 3, none⟩ = some (.slice A0_3 l0_3.length c0_3) := (blk_cell BK1.out 3).trans rfl
                                    have hfz38_0 := blk_frozen BK1.out 0
                                    have hfz38_1 := blk_frozen BK1.out 1
                                    have hfz38_2 := blk_frozen BK1.out 2
                                    have hfz38_3 := blk_frozen BK1.out 3
                                    have p7 : 0 ≤ ((ji29) : Int) := of_decide_eq_true (by first | (with_reducible assumption) | assumption)
                                    have q7 : (ji29) < (l0_3.length : Int) := of_decide_eq_true (by first | (with_reducible assumption) | assumption)
                                    obtain ⟨ad7, e7, hx7_0⟩ := Kd.at_int HR0_3.out (ji29) p7 q7
                                    cases e7
                                    replace hx7_0 := (HB.out.cell (World.block_lt_of_cell? w _ hx7_0)).trans hx7_0
                                    replace p7 := eq_true p7
                                    replace q7 := eq_true q7
                                    have p8 : 0 ≤ ((rd l0_3 (ji29)) : Int) := of_decide_eq_true (by first | (with_reducible assumption) | assumption)
                                    have q8 : (rd l0_3 (ji29)) < (l1.length : Int) := of_decide_eq_true (by first | (with_reducible assumption) | assumption)
                                    obtain ⟨ad8, A8_3, c8_3, e8, hx8_0, hx8_1, hx8_2, hx8_3, hl8_3, hi8_3⟩ := at_T34 HR1.out (rd l0_3 (ji29)) p8 q8
                                    cases e8
                                    replace hx8_0 := (HB.out.cell (World.block_lt_of_cell? w _ hx8_0)).trans hx8_0
                                    replace hx8_1 := (HB.out.cell (World.block_lt_of_cell? w _ hx8_1)).trans hx8_1
                                    replace hx8_2 := (HB.out.cell (World.block_lt_of_cell? w _ hx8_2)).trans hx8_2
                                    replace hx8_3 := (HB.out.cell (World.block_lt_of_cell? w _ hx8_3)).trans hx8_3
                                    have HR8_3 := Aside0.mk hi8_3
                                    have HC8_3 := Aside0.mk hl8_3
                                    clear hi8_3 hl8_3
                                    replace p8 := eq_true p8
                                    replace q8 := eq_true q8
                                    have p37 : 0 ≤ (x17_1 : Int) := of_decide_eq_true (by first | (with_reducible assumption) | assumption)
                                    have q37 : (x17_1 : Int) < ((x4_1.length : Int) : Int) := of_decide_eq_true (by first | (with_reducible assumption) | assumption)
                                    obtain ⟨go37, co37, eo37, gb37, gl37, cl37, HG37⟩ := Kd.R_form HO_4.out (by omega)
                                    (first | cases eo37 | (injection eo37 with ea_ en_ ec_; (first | subst ea_ | (injection ea_ with ea_; subst ea_)); subst ec_; clear en_))
                                    have GB37 := Aside0.mk gb37
                                    have GG37 := Aside0.mk HG37
                                    clear gb37 gl37 HG37
                                    obtain ⟨hx37_0, hf37_0⟩ := Kd.R_celln (⟨#[]⟩ : ByteArray) HO_4.out (x17_1 : Int) p37 q37
                                    replace p37 := eq_true p37
                                    replace q37 := eq_true q37
                                    have HP39 := Kd.R_putg HO_4.out (x17_1 : Int) ((rd_T34 l1 (rd l0_3 (ji29))).f2)
                                    go_wp2_with (first | ((with_reducible refine gate_store (t := 9) (p := 59) rfl ?_); refine store_event (t := 9) (p := 59) (v := ?vo_w40) (w1 := (wc.setCell ⟨go37, (x17_1 : Int).toNat, none⟩ (.string ((rd_T34 l1 (rd l0_3 (ji29))).f2)))) ?hg ?ho ?hn ?hr ?_; (case ho => rfl); (case hg => rfl); (case hn => rfl); (case hr => first | (go_simp; done) | (go_simp; rfl)); intro w40 hw; have hg : wc.grownBy w40 (some go37) := (by rw [hw]; exact HP39.2); have hp_ : Kd.R Kd.string 9 w40 w.heap.size (fun _ => True) (.slice (some ⟨go37, 0, none⟩) x4_1.length co37) y9 := (by rw [hw, Ny9.out]; exact HP39.1); clear HP39; have n0_ := Aside0.mk (hp_); have n1_ := Aside0.mk (blk_grown (g := gb1) (o := .cells #[.int .i64 a0_0, .string a0_1, .string a0_2, .slice (some ad7) l0_3.length c0_3] 34 (0, 0)) (by (with_reducible repeat (first | refine blk_drewN ?_ _ | refine blk_drew ?_ | refine blk_alloc ?_ _)); exact BK1.out) hg (Kd.R_ne HO_4.out BK1.out (by decide))); have n2_ := Aside0.mk ((by rw [hw]; exact below_set (HB.out) GB37.out : Below w.heap.size w w40)); clear HO_4; clear BK1; clear HB; have HO_4 := n0_; have BK1 := n1_; have HB := n2_; clear n0_ n1_ n2_; clear hg hw hp_))
                                    go_roundg kj22
                                    case measure => have := HK1.out; have := HJ22.out; omega
                                    case rel => exact ⟨(y9), (wrap64 (x17_1 + 1)), (by first | rfl | (simp; done) | (simp [*]; done)), H', ⟨by have := HK1.out; have := HJ22.out; omega⟩, ⟨by (with_reducible repeat (first | apply Kd.R_alloc | apply Kd.R_drewN | apply Kd.R_drew)); exact HO_4.out⟩, ⟨by (with_reducible repeat (first | refine blk_drewN ?_ _ | refine blk_drew ?_ | refine blk_alloc ?_ _)); exact BK1.out⟩, ⟨by repeat (first | (with_reducible first | exact HB.out | apply below_alloc | apply pw_below_drewN | apply below_drew1 | refine below_set ?_ GE1.out) | exact HB.out)⟩⟩
                                  · rw [if_neg c36] at H
                                    exact absurd H (by simp)
                                · rw [if_neg c35] at H
                                  exact absurd H (by simp)
                              · rw [if_neg c34] at H
                                exact absurd H (by simp)
                            · rw [if_neg c33] at H
                              have c33b0 : decide ((rd l0_3 (ji29)) < (l1.length : Int)) = false := decide_eq_false c33
                              clear c33
                              have H' := Aside0.mk H
                              clear H
                              have hcz41_0 : wc.cell? ⟨gb1, 0, none⟩ = some (.int .i64 a0_0) := (blk_cell BK1.out 0).trans rfl
                              have hcz41_1 : wc.cell? ⟨gb1, 1, none⟩ = some (.string a0_1) := (blk_cell BK1.out 1).trans rfl
                              have hcz41_2 : wc.cell? ⟨gb1, 2, none⟩ = some (.string a0_2) := (blk_cell BK1.out 2).trans rfl
                              have hcz41_3 : wc.cell? ⟨gb1, 3, none⟩ = some (.slice A0_3 l0_3.length c0_3) := (blk_cell BK1.out 3).trans rfl
                              have hfz41_0 := blk_frozen BK1.out 0
                              have hfz41_1 := blk_frozen BK1.out 1
                              have hfz41_2 := blk_frozen BK1.out 2
                              have hfz41_3 := blk_frozen BK1.out 3
                              have p7 : 0 ≤ ((ji29) : Int) := of_decide_eq_true (by first | (with_reducible assumption) | assumption)
                              have q7 : (ji29) < (l0_3.length : Int) := of_decide_eq_true (by first | (with_reducible assumption) | assumption)
                              obtain ⟨ad7, e7, hx7_0⟩ := Kd.at_int HR0_3.out (ji29) p7 q7
                              cases e7
                              replace hx7_0 := (HB.out.cell (World.block_lt_of_cell? w _ hx7_0)).trans hx7_0
                              replace p7 := eq_true p7
                              replace q7 := eq_true q7
                              go_wp2
                              go_roundg kj22
                              case measure => have := HK1.out; have := HJ22.out; omega
                              case rel => exact ⟨(x4_1), (wrap64 (x17_1 + 1)), (by first | rfl | (simp; done) | (simp [*]; done)), H', ⟨by have := HK1.out; have := HJ22.out; omega⟩, ⟨by (with_reducible repeat (first | apply Kd.R_alloc | apply Kd.R_drewN | apply Kd.R_drew)); exact HO_4.out⟩, ⟨by (with_reducible repeat (first | refine blk_drewN ?_ _ | refine blk_drew ?_ | refine blk_alloc ?_ _)); exact BK1.out⟩, ⟨by repeat (first | (with_reducible first | exact HB.out | apply below_alloc | apply pw_below_drewN | apply below_drew1 | refine below_set ?_ GE1.out) | exact HB.out)⟩⟩
                          · rw [if_neg c32] at H
                            have c32b0 : decide (0 ≤ (rd l0_3 (ji29))) = false := decide_eq_false c32
                            clear c32
                            have H' := Aside0.mk H
                            clear H
                            have hcz42_0 : wc.cell? ⟨gb1, 0, none⟩ = some (.int .i64 a0_0) := (blk_cell BK1.out 0).trans rfl
                            have hcz42_1 : wc.cell? ⟨gb1, 1, none⟩ = some (.string a0_1) := (blk_cell BK1.out 1).trans rfl
                            have hcz42_2 : wc.cell? ⟨gb1, 2, none⟩ = some (.string a0_2) := (blk_cell BK1.out 2).trans rfl
                            have hcz42_3 : wc.cell? ⟨gb1, 3, none⟩ = some (.slice A0_3 l0_3.length c0_3) := (blk_cell BK1.out 3).trans rfl
                            have hfz42_0 := blk_frozen BK1.out 0
                            have hfz42_1 := blk_frozen BK1.out 1
                            have hfz42_2 := blk_frozen BK1.out 2
                            have hfz42_3 := blk_frozen BK1.out 3
                            have p7 : 0 ≤ ((ji29) : Int) := of_decide_eq_true (by first | (with_reducible assumption) | assumption)
                            have q7 : (ji29) < (l0_3.length : Int) := of_decide_eq_true (by first | (with_reducible assumption) | assumption)
                            obtain ⟨ad7, e7, hx7_0⟩ := Kd.at_int HR0_3.out (ji29) p7 q7
                            cases e7
                            replace hx7_0 := (HB.out.cell (World.block_lt_of_cell? w _ hx7_0)).trans hx7_0
                            replace p7 := eq_true p7
                            replace q7 := eq_true q7
                            go_wp2
                            go_roundg kj22
                            case measure => have := HK1.out; have := HJ22.out; omega
                            case rel => exact ⟨(x4_1), (wrap64 (x17_1 + 1)), (by first | rfl | (simp; done) | (simp [*]; done)), H', ⟨by have := HK1.out; have := HJ22.out; omega⟩, ⟨by (with_reducible repeat (first | apply Kd.R_alloc | apply Kd.R_drewN | apply Kd.R_drew)); exact HO_4.out⟩, ⟨by (with_reducible repeat (first | refine blk_drewN ?_ _ | refine blk_drew ?_ | refine blk_alloc ?_ _)); exact BK1.out⟩, ⟨by repeat (first | (with_reducible first | exact HB.out | apply below_alloc | apply pw_below_drewN | apply below_drew1 | refine below_set ?_ GE1.out) | exact HB.out)⟩⟩
                        · rw [if_neg c31] at H
                          exact absurd H (by simp)
                      · rw [if_neg c30] at H
                        exact absurd H (by simp)
                    · replace c28 := Bool.eq_false_iff.mpr c28
                      subst c28
                      have H1 : (label_Steps.l0 kj22 l1 x4_1 (l0_3.length : Int) (wrap64 (x17_1 + 1)) a0_0 a0_1 a0_2 l0_3) = some r := by rw [if_neg (show ¬ (false = true) by decide)] at H; exact H
                      clear H
                      have H := H1
                      clear H1
                      have H' := Aside0.mk H
                      clear H
                      go_wp2
                      go_roundg kj22
                      case measure => have := HK1.out; have := HJ22.out; omega
                      case rel => exact ⟨(x4_1), (wrap64 (x17_1 + 1)), (by first | rfl | (simp; done) | (simp [*]; done)), H', ⟨by have := HK1.out; have := HJ22.out; omega⟩, ⟨by (with_reducible repeat (first | apply Kd.R_alloc | apply Kd.R_drewN | apply Kd.R_drew)); exact HO_4.out⟩, ⟨by (with_reducible repeat (first | refine blk_drewN ?_ _ | refine blk_drew ?_ | refine blk_alloc ?_ _)); exact BK1.out⟩, ⟨by repeat (first | (with_reducible first | exact HB.out | apply below_alloc | apply pw_below_drewN | apply below_drew1 | refine below_set ?_ GE1.out) | exact HB.out)⟩⟩
            · rw [if_neg c13] at H
              have c13b0 : decide (x17_1 < (l0_3.length : Int)) = false := decide_eq_false c13
              clear c13
              obtain rfl := Option.some.inj H
              go_wp2
              go_ret
              exact ⟨_, by first | rfl | (simp [errW_none, errW_some] <;> rfl) | (simp [*, errW_none, errW_some] <;> rfl), by (with_reducible repeat (first | apply Kd.R_alloc | apply Kd.R_drewN | apply Kd.R_drew)); exact HO_4.out, by repeat (first | (with_reducible first | exact HB.out | apply below_alloc | apply pw_below_drewN | apply below_drew1 | refine below_set ?_ GE1.out) | exact HB.out)⟩
      · rw [if_neg c7] at H
        exact absurd H (by simp)
    · rw [if_neg c6] at H
      exact absurd H (by simp)
end Go.Proofs.YtpbkdeelkpjccaaDoor.G
