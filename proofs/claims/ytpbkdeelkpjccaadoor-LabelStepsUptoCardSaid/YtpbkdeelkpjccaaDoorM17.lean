/- Merged by merge.py out of: Haccept. -/
import Derived.Test.YtpbkdeelkpjccaaDoorM04
import Derived.Test.YtpbkdeelkpjccaaDoorM05
import Derived.Deep.RegionWith
namespace Go.Proofs.YtpbkdeelkpjccaaDoor.G
open Go.RowKit Go.Proofs.YtpbkdeelkpjccaaDoorW.PrintWords
set_option linter.unusedVariables false
set_option linter.unusedSimpArgs false
def accP (ps : List (List S71)) (bs : List Int) (ws : List Nat) (i : Nat) : Bool := inW ws (bs.getD i 0 + ((ps.getD i []).length : Int))
def accTo (ps : List (List S71)) (bs : List Int) (ws : List Nat) (k : Nat) : List Int := ((List.range k).filter (accP ps bs ws)).map fun (i : Nat) => (i : Int)
theorem accTo_yes {ps : List (List S71)} {bs : List Int} {ws : List Nat} {k : Nat} (h : accP ps bs ws k = true) : accTo ps bs ws (k + 1) = accTo ps bs ws k ++ [(k : Int)] := by
  unfold accTo; rw [List.range_succ, List.filter_append, List.map_append]; simp [h]
theorem accTo_no {ps : List (List S71)} {bs : List Int} {ws : List Nat} {k : Nat} (h : accP ps bs ws k = false) : accTo ps bs ws (k + 1) = accTo ps bs ws k := by
  unfold accTo; rw [List.range_succ, List.filter_append, List.map_append]; simp [h]
theorem accTo_len (ps : List (List S71)) (bs : List Int) (ws : List Nat) (k : Nat) : (accTo ps bs ws k).length ≤ k := by
  unfold accTo; rw [List.length_map]; exact Nat.le_trans (List.length_filter_le _ _) (by simp)
def nfaAccept (ps : List (List S71)) (bs : List Int) (ws : List Nat) : List Int := accTo ps bs ws ps.length
theorem cells8 {ws : List Nat} (h : OkW ws) : ∃ x0 x1 x2 x3 x4 x5 x6 x7 : Nat, ws = [x0, x1, x2, x3, x4, x5, x6, x7] := by
  have := h.len
  match ws, this with
  | [x0, x1, x2, x3, x4, x5, x6, x7], _ => exact ⟨x0, x1, x2, x3, x4, x5, x6, x7, rfl⟩
set_option maxHeartbeats 4000000 in
set_option maxRecDepth 100000 in
theorem accept_any (ps : List (List S71)) (bs : List Int) (A0 : Option Addr) (c0 : Nat) (A1 : Option Addr) (c1 : Nat) (m : Int) (ws : List Nat) (hw : OkW ws) (w : World) (hT : TabAt ps bs A0 c0 A1 c1 w) :
    Calls Tryd.prog 33 #[tabArg ps bs A0 c0 A1 c1 m, setV ws] w fun e w' => ∃ v, e = .returned v ∧ Kd.R (Kd.int .i64) 3 w' w.heap.size (fun _ => True) v (nfaAccept ps bs ws) ∧ Below w.heap.size w w' := by
  have hu80 := Tryd.underlying80
  have hmax := hT.h0.2.1
  have hbig : ps.length ≤ 1000 := hT.few
  have HT := Aside0.mk hT
  have HW := Aside0.mk hw
  clear hT hw
  have cB := Aside0.mk (fun (i : Nat) W h hi => begin_calls ps bs A0 c0 A1 c1 m i W h hi)
  unfold tabArg at cB ⊢
  have HL := Aside0.mk HT.out.len
  have hz := setCells_size HW.out
  have hu67 := Tryd.underlying67
  unfold setV
  go_enter Tryd.func33, Tryd.ntmps33
  go_wp2
  obtain ⟨W1, hW1⟩ : ∃ W1, w.alloc (.cells #[.slice A0 ps.length c0, .slice A1 bs.length c1, .int .i64 m] 80) = W1 := ⟨_, rfl⟩
  obtain ⟨W0, hW0⟩ : ∃ W0, W1.alloc (.cells (setCells ws) 67) = W0 := ⟨_, rfl⟩
  have s1 : W1.heap.size = w.heap.size + 1 := by rw [← hW1]; simp
  have hsz : W0.heap.size = w.heap.size + 2 := by rw [← hW0]; simp [s1]
  have H0 : Aside0 (W0.heap[w.heap.size]? = some (tabBox ps bs A0 c0 A1 c1 m)) := ⟨by rw [← hW0, ← hW1]; exact blk_alloc (heap_alloc_new _ _) _⟩
  have H1 : Aside0 (W0.heap[w.heap.size + 1]? = some (.cells (setCells ws) 67 (0, 0))) := ⟨by rw [← s1, ← hW0]; exact heap_alloc_new _ _⟩
  have HB0 : Aside0 (Below w.heap.size w W0) := ⟨by rw [← hW0, ← hW1]; exact below_alloc (below_alloc (Below.refl _ _) _) _⟩
  rw [hW1, hW0]
  clear hW0 hW1 s1 hu67
  go_loopg [4, 10] ps.length (fun gg s4 s10 wr => ∃ i : Nat, i ≤ ps.length ∧ ps.length - i ≤ gg ∧ s10 = .int .i64 i ∧ Aside0 (Kd.R (Kd.int .i64) 3 wr w.heap.size (fun k => k ≠ w.heap.size ∧ k ≠ w.heap.size + 1) s4 (accTo ps bs ws i)) ∧ Aside0 (Below w.heap.size w wr) ∧ Aside0 (W0.heap.size ≤ wr.heap.size) ∧ Aside0 (wr.heap[w.heap.size]? = some (tabBox ps bs A0 c0 A1 c1 m)) ∧ Aside0 (wr.heap[w.heap.size + 1]? = some (.cells (setCells ws) 67 (0, 0))))
  case atStart => exact ⟨0, Nat.zero_le _, by omega, rfl, ⟨Kd.R_nil _ _ _ _ _⟩, ⟨HB0.out⟩, ⟨Nat.le_refl _⟩, ⟨H0.out⟩, ⟨H1.out⟩⟩
  case round =>
    obtain ⟨i, hi, hg, rfl, RV, BW, SW, BT, BS⟩ := hrel
    have e0 : wr.cell? ⟨w.heap.size, 0, none⟩ = some (.slice A0 ps.length c0) := (blk_cell BT.out 0).trans rfl
    have e1 : wr.cell? ⟨w.heap.size, 1, none⟩ = some (.slice A1 bs.length c1) := (blk_cell BT.out 1).trans rfl
    have e2 : wr.cell? ⟨w.heap.size, 2, none⟩ = some (.int .i64 m) := (blk_cell BT.out 2).trans rfl
    by_cases hil : i < ps.length
    · have hiz : (i : Int) < (ps.length : Int) := by omega
      obtain ⟨x0, x1, x2, x3, x4, x5, x6, x7, rfl⟩ := cells8 HW.out
      obtain ⟨ad, A4, c4, e, q0, l4, g4⟩ := at_L7 HT.out.h0 (i : Int) (by omega) hiz
      cases e
      have hsh : (ps.getD i []).length ≤ 20 := HT.out.short _ (by rw [getD_lt _ _ hil]; exact List.getElem_mem _)
      have hsm : 0 ≤ bs.getD i 0 ∧ bs.getD i 0 ≤ 512 := HT.out.small _ (by have := HT.out.len; rw [getD_lt _ _ (by omega)]; exact List.getElem_mem _)
      have cBi := Aside0.mk (fun W h => cB.out i W h hil)
      have HY := Aside0.mk (fun h => accTo_yes (ps := ps) (bs := bs) (ws := [x0, x1, x2, x3, x4, x5, x6, x7]) (k := i) h)
      have HN := Aside0.mk (fun h => accTo_no (ps := ps) (bs := bs) (ws := [x0, x1, x2, x3, x4, x5, x6, x7]) (k := i) h)
      have hq : accP ps bs [x0, x1, x2, x3, x4, x5, x6, x7] i = inW [x0, x1, x2, x3, x4, x5, x6, x7] (bs.getD i 0 + ((ps.getD i []).length : Int)) := rfl
      rw [show rd_L7 ps (i : Int) = ps.getD i [] from rfl] at q0 l4
      generalize hp : ps.getD i [] = p at *
      generalize bs.getD i 0 = b at *
      have hw6 : wrap64 (b + (p.length : Int)) = b + (p.length : Int) := IntWalk.wrap64_in _ (by omega)
      have hw7 : IntKind.i64.wrap (b + (p.length : Int)) = b + (p.length : Int) := (IntWalk.i64_left _).trans hw6
      have cH := Aside0.mk (fun W => has_any [x0, x1, x2, x3, x4, x5, x6, x7] HW.out (b + (p.length : Int)) W)
      rw [← hq] at cH
      generalize hbb : accP ps bs [x0, x1, x2, x3, x4, x5, x6, x7] i = q at *
      replace q0 := (BW.out.cell (World.block_lt_of_cell? w _ q0)).trans q0
      rw [Int.toNat_natCast] at q0
      have hP : p.length ≤ 9223372036854775807 := by omega
      have z0 : wr.cell? ⟨w.heap.size + 1, 0, none⟩ = some (.int .u64 (x0 : Int)) := (blk_cell BS.out 0).trans rfl
      have z1 : wr.cell? ⟨w.heap.size + 1, 1, none⟩ = some (.int .u64 (x1 : Int)) := (blk_cell BS.out 1).trans rfl
      have z2 : wr.cell? ⟨w.heap.size + 1, 2, none⟩ = some (.int .u64 (x2 : Int)) := (blk_cell BS.out 2).trans rfl
      have z3 : wr.cell? ⟨w.heap.size + 1, 3, none⟩ = some (.int .u64 (x3 : Int)) := (blk_cell BS.out 3).trans rfl
      have z4 : wr.cell? ⟨w.heap.size + 1, 4, none⟩ = some (.int .u64 (x4 : Int)) := (blk_cell BS.out 4).trans rfl
      have z5 : wr.cell? ⟨w.heap.size + 1, 5, none⟩ = some (.int .u64 (x5 : Int)) := (blk_cell BS.out 5).trans rfl
      have z6 : wr.cell? ⟨w.heap.size + 1, 6, none⟩ = some (.int .u64 (x6 : Int)) := (blk_cell BS.out 6).trans rfl
      have z7 : wr.cell? ⟨w.heap.size + 1, 7, none⟩ = some (.int .u64 (x7 : Int)) := (blk_cell BS.out 7).trans rfl
      clear hq g4 hz
      unfold setV setCells wordV at cH
      simp only [List.map_cons, List.map_nil] at cH
      go_wp2
      go_region_with (first | (go_at_call 62; refine (cBi.out _ ?hb).mono ?_; (case hb => exact HT.out.below (below_drew BW.out)); rintro e w1 ⟨rfl, hb1⟩; have HB1 := Aside0.mk hb1; have y0 := pw_cell_below hb1 z0; have y1 := pw_cell_below hb1 z1; have y2 := pw_cell_below hb1 z2; have y3 := pw_cell_below hb1 z3; have y4 := pw_cell_below hb1 z4; have y5 := pw_cell_below hb1 z5; have y6 := pw_cell_below hb1 z6; have y7 := pw_cell_below hb1 z7; clear hb1) | (go_at_call 61; refine (cH.out _).mono ?_; rintro e w2 ⟨rfl, hb2⟩; have HB2 := Aside0.mk hb2; clear hb2))
      all_goals
        have hb2 : Below wr.heap.size wr w2 := below_then (below_then (below_drew (Below.refl _ _)) (Nat.le_refl _) HB1.out) HB1.out.size HB2.out
        have HRV := Aside0.mk (Kd.R_below RV.out hb2)
        have HBW := Aside0.mk (below_then BW.out BW.out.size hb2)
        have HSW := Aside0.mk (Nat.le_trans SW.out hb2.size)
        have HBT := Aside0.mk (blk_below5 hb2 BT.out)
        have HBS := Aside0.mk (blk_below5 hb2 BS.out)
        clear hb2 HB1 HB2 RV BW SW BT BS e0 e1 e2 z0 z1 z2 z3 z4 z5 z6 z7 q0 cH cBi cB
        try clear y0 y1 y2 y3 y4 y5 y6 y7
        generalize hcs : setCells [x0, x1, x2, x3, x4, x5, x6, x7] = cs at *
        generalize hac : accTo ps bs [x0, x1, x2, x3, x4, x5, x6, x7] i = acc at *
        have HAL := Aside0.mk (accTo_len ps bs [x0, x1, x2, x3, x4, x5, x6, x7] i)
        rw [hac] at HAL
        have HAC := Aside0.mk hac
        have HBBQ := Aside0.mk hbb
        clear hcs hac hbb
        cases q with
        | false =>
          go_wp2
          go_roundg (ps.length - (i + 1))
          case measure => omega
          case rel => exact ⟨i + 1, by omega, by omega, by go_num, ⟨by rw [HN.out trivial]; exact HRV.out⟩, ⟨HBW.out⟩, ⟨HSW.out⟩, ⟨HBT.out⟩, ⟨HBS.out⟩⟩
        | true =>
          go_wp2_with ((with_reducible refine gate_builtin (b := .append) (xs := #[.tmp 23, .tmp 25]) rfl ?_); at_builtin; go_loud (refine Kd.R_append (Kd.int .i64) (w0 := w) w.heap.size rfl (.tmp 23) (.tmp 25) 22 3 (.int .i64 0) 8 rfl Tryd.underlying22 info3 rfl (by decide) (by omega) u4 acc (i : Int) [.int .i64 (i : Int)] (fun k => k ≠ w.heap.size ∧ k ≠ w.heap.size + 1) (fun _ => False) rfl rfl ?aP (fun _ hk => hk.elim) ?aF ?aO ?aB ?aS ?aL ?_); go_loud ((case aP => exact rfl); (case aB => exact HBW.out); (case aF => exact (fun k hk => by have h1 := HSW.out; omega)); (case aO => exact HRV.out); (case aS => exact HBW.out.size); (case aL => (have h1 := HAL.out; omega)); intro v5 w5 ho hb hg2 hat; obtain ⟨A5, c5, rfl, hl5, hC5⟩ := Kd.R_reads ho; have HO5 := Aside0.mk ho; have HB5 := Aside0.mk hb; have HG5 := Aside0.mk hg2; clear ho hb hg2 hat hC5 hl5))
          go_roundg (ps.length - (i + 1))
          case measure => omega
          case rel =>
            have hne : ∀ k, (k = w.heap.size ∨ k = w.heap.size + 1) → some k ≠ u4.ownBlock := fun k hk e => by
              have := HRV.out.1 k e.symm
              omega
            exact ⟨i + 1, by omega, by omega, by go_num, ⟨by have h := HO5.out; rw [show (acc ++ [(i : Int)]).length = acc.length + 1 by simp] at h; rw [HY.out trivial]; exact h⟩, ⟨HB5.out⟩, ⟨Nat.le_trans HSW.out HG5.out.size⟩, ⟨blk_grown HBT.out HG5.out (hne _ (.inl rfl))⟩, ⟨blk_grown HBS.out HG5.out (hne _ (.inr rfl))⟩⟩
    · have hiz : decide ((i : Int) < (ps.length : Int)) = false := decide_eq_false (by omega)
      obtain rfl : i = ps.length := by omega
      obtain ⟨A9, c9, e9, hl9, hC9⟩ := Kd.R_reads RV.out
      have HE := Aside0.mk e9
      have HC9 := Aside0.mk hC9
      clear hC9 e9
      go_wp2
      go_ret
      exact ⟨_, rfl, Kd.R_mono RV.out (fun _ _ => trivial), BW.out⟩
end Go.Proofs.YtpbkdeelkpjccaaDoor.G
