/- Merged by merge.py out of: HstatesA. -/
import Derived.Test.YtpbkdeelkpjccaaDoorM11
import Derived.Test.YtpbkdeelkpjccaaDoorM16
import Derived.Deep.RegionHeld3
import Derived.Deep.DeepCutAuto
import Derived.Test.YtpbkdeelkpjccaaDoorM17
namespace Go.Proofs.YtpbkdeelkpjccaaDoor.G
open Go.RowKit Go.Proofs.YtpbkdeelkpjccaaDoorW.PrintWords
set_option linter.unusedVariables false
set_option linter.unusedSimpArgs false
section
variable (g : List S34) (A : Option Addr) (c : Nat) (ps : List (List S71)) (bs : List Int) (A0 : Option Addr) (c0 : Nat) (A1 : Option Addr) (c1 : Nat) (m : Int) (Bg Bo Bt M : Nat) (w00 : World)
structure StAt (S : List (List Nat)) (W : World) : Prop where
  sets : Sets g.length S
  bel : Below w00.heap.size w00 W
  bg : W.heap[Bg]? = some (.cells #[.slice A g.length c] 29 (0, 0))
  bo : W.heap[Bo]? = some (.cells #[.slice (some ⟨M, 0, none⟩) g.length g.length] 62 (0, 0))
  bt : W.heap[Bt]? = some (tabBox ps bs A0 c0 A1 c1 m)
  bm : W.heap[M]? = some (.cells (setCells S.flatten) 67 (0, 0))
theorem held_cell {W1 : World} : ∀ w', Below W1.heap.size W1 w' → ∀ b o, b < W1.heap.size → w'.cell? ⟨b, o, none⟩ = W1.cell? ⟨b, o, none⟩ := fun w' h b o hb => h.cell (p := ⟨b, o, none⟩) hb
theorem held_call {W1 w w' : World} (h : Below W1.heap.size W1 w) (hb : Below w.heap.size w w') : Below W1.heap.size W1 w' := below_then h h.size hb
theorem str_at {e : Nat} {w : World} {base : Nat} {ok : Nat → Prop} {v : Value} {L : List ByteArray} {p : Nat} (h : Kd.string.R e w base ok v L) (hp : p < L.length) : ∃ gb o cap, v = .slice (some ⟨gb, o, none⟩) L.length cap ∧ gb < w.heap.size ∧ w.cell? ⟨gb, o + p, none⟩ = some (.string (L.getD p ⟨#[]⟩)) ∧ (p : Int) < (L.length : Int) := by
  have hq := Kd.Q_of_R h
  obtain ⟨gb, o, cap, rfl, _, hl, _⟩ := Kd.Q_form hq (by omega)
  refine ⟨gb, o, cap, rfl, hl, ?_, by omega⟩
  have := (Kd.Q_cell (⟨#[]⟩ : ByteArray) hq (p : Int) (by omega) (by omega)).1
  rw [Int.toNat_natCast] at this
  rw [this]
  unfold rdOf
  rw [Int.toNat_natCast]
theorem heap_alloc_drew (w : World) (o : Obj) : (w.alloc o).drew.heap[w.heap.size]? = some o := heap_alloc_new w o
theorem below_set8 {w W : World} {N u0 u1 u2 u3 u4 u5 u6 u7 : Nat} (h : Below w.heap.size w W) (hN : w.heap.size ≤ N) : Below w.heap.size w ((((((((W.setCell ⟨N, 0, none⟩ (.int .u64 (u0 : Int))).setCell ⟨N, 1, none⟩ (.int .u64 (u1 : Int))).setCell ⟨N, 2, none⟩ (.int .u64 (u2 : Int))).setCell ⟨N, 3, none⟩ (.int .u64 (u3 : Int))).setCell ⟨N, 4, none⟩ (.int .u64 (u4 : Int))).setCell ⟨N, 5, none⟩ (.int .u64 (u5 : Int))).setCell ⟨N, 6, none⟩ (.int .u64 (u6 : Int))).setCell ⟨N, 7, none⟩ (.int .u64 (u7 : Int))) :=
  below_set (below_set (below_set (below_set (below_set (below_set (below_set (below_set h hN) hN) hN) hN) hN) hN) hN) hN
theorem heap_set8 {W : World} {N u0 u1 u2 u3 u4 u5 u6 u7 : Nat} {t : TypeId} {a0 a1 a2 a3 a4 a5 a6 a7 : Value} (h : W.heap[N]? = some (.cells #[a0, a1, a2, a3, a4, a5, a6, a7] t (0, 0))) : ((((((((W.setCell ⟨N, 0, none⟩ (.int .u64 (u0 : Int))).setCell ⟨N, 1, none⟩ (.int .u64 (u1 : Int))).setCell ⟨N, 2, none⟩ (.int .u64 (u2 : Int))).setCell ⟨N, 3, none⟩ (.int .u64 (u3 : Int))).setCell ⟨N, 4, none⟩ (.int .u64 (u4 : Int))).setCell ⟨N, 5, none⟩ (.int .u64 (u5 : Int))).setCell ⟨N, 6, none⟩ (.int .u64 (u6 : Int))).setCell ⟨N, 7, none⟩ (.int .u64 (u7 : Int))).heap[N]? = some (.cells #[.int .u64 (u0 : Int), .int .u64 (u1 : Int), .int .u64 (u2 : Int), .int .u64 (u3 : Int), .int .u64 (u4 : Int), .int .u64 (u5 : Int), .int .u64 (u6 : Int), .int .u64 (u7 : Int)] t (0, 0)) := by
  rw [blk_set (blk_set (blk_set (blk_set (blk_set (blk_set (blk_set (blk_set h 0 _) 1 _) 2 _) 3 _) 4 _) 5 _) 6 _) 7 _]
  simp
theorem grown_cell (w : World) (b i : Nat) (v : Value) : w.grownBy (w.setCell ⟨b, i, none⟩ v) (some b) :=
  ⟨rfl, rfl, rfl, by simp [World.setCell], fun k _ hk => Below.heap_setCell w ⟨b, i, none⟩ v k (fun e => hk (congrArg some e))⟩
theorem flat_set8 {n : Nat} {S : List (List Nat)} (h : Sets n S) {k : Nat} (hk : k < n) (u0 u1 u2 u3 u4 u5 u6 u7 : Nat) :
    ((((((((setCells S.flatten).setIfInBounds (k * 8) (wordV u0)).setIfInBounds (k * 8 + 1) (wordV u1)).setIfInBounds (k * 8 + 2) (wordV u2)).setIfInBounds (k * 8 + 3) (wordV u3)).setIfInBounds (k * 8 + 4) (wordV u4)).setIfInBounds (k * 8 + 5) (wordV u5)).setIfInBounds (k * 8 + 6) (wordV u6)).setIfInBounds (k * 8 + 7) (wordV u7) = setCells (S.set k [u0, u1, u2, u3, u4, u5, u6, u7]).flatten := by
  simp only [setCells_set]
  rw [flat_set S h.2 k _ (by rw [h.1]; exact hk) rfl]
  congr 1
  have hl := flat_len S h.2
  rw [h.1] at hl
  have hA : (S.flatten.take (k * 8)).length = k * 8 := by rw [List.length_take]; omega
  have hD : (S.flatten.drop (k * 8)).length = n * 8 - k * 8 := by rw [List.length_drop]; omega
  have e : S.flatten = S.flatten.take (k * 8) ++ S.flatten.drop (k * 8) := (List.take_append_drop _ _).symm
  have eB : S.flatten.drop (k * 8 + 8) = (S.flatten.drop (k * 8)).drop 8 := by rw [List.drop_drop]
  rw [eB]
  generalize S.flatten.take (k * 8) = A at *
  generalize S.flatten.drop (k * 8) = R at *
  rw [e]
  match R, (show 8 ≤ R.length by omega) with
  | m0 :: m1 :: m2 :: m3 :: m4 :: m5 :: m6 :: m7 :: B, _ =>
    simp [List.set_append_right, hA]
structure StFix : Prop where
  hT : Tabs w00
  hr : Kd.C k34 w00 A g.length g
  hc : g.length ≤ c
  fit : fitG g
  tab : TabAt ps bs A0 c0 A1 c1 w00
  le : g.length ≤ 2000
  kids : ∀ x ∈ g, ∀ k ∈ x.f3, 0 ≤ k ∧ k < (g.length : Int)
  ng : Bg ≠ M
  no : Bo ≠ M
  nt : Bt ≠ M
  hM : w00.heap.size ≤ M
theorem StAt.keep {S : List (List Nat)} {W W' : World} {row : Option Nat} (H : StAt g A c ps bs A0 c0 A1 c1 m Bg Bo Bt M w00 S W) (hg : W.grownBy W' row) (h0 : ∀ k, row = some k → w00.heap.size ≤ k) (hr : ∀ k, row = some k → k ≠ Bg ∧ k ≠ Bo ∧ k ≠ Bt ∧ k ≠ M) : StAt g A c ps bs A0 c0 A1 c1 m Bg Bo Bt M w00 S W' :=
  ⟨H.sets, H.bel.grown hg H.bel.size h0, blk_grown H.bg hg (fun e => (hr _ e.symm).1 rfl), blk_grown H.bo hg (fun e => (hr _ e.symm).2.1 rfl), blk_grown H.bt hg (fun e => (hr _ e.symm).2.2.1 rfl), blk_grown H.bm hg (fun e => (hr _ e.symm).2.2.2 rfl)⟩
set_option maxHeartbeats 4000000 in
set_option maxRecDepth 100000 in
theorem states1_key (X : StFix g A c ps bs A0 c0 A1 c1 Bg Bo Bt M w00) (S : List (List Nat)) (W : World) (H : StAt g A c ps bs A0 c0 A1 c1 m Bg Bo Bt M w00 S W) (a k : Int) (p : Nat) (ha0 : 0 ≤ a) (ha1 : a < (g.length : Int)) (hk : (rd_T34 g a).f3[p]? = some k)
    (h2 : (rd_T34 g a).f0 = 2) (hp : p % 2 = 0) :
    Calls Tryd.prog 43 (#[.int .i64 a, .int .i64 k, .int .i64 (p : Int)] ++ #[.pointer (some ⟨Bg, 0, none⟩), .pointer (some ⟨Bo, 0, none⟩), .pointer (some ⟨Bt, 0, none⟩)]) W fun e W' => e = .returned (.bool false) ∧ StAt g A c ps bs A0 c0 A1 c1 m Bg Bo Bt M w00 S W' ∧ W.grownBy W' (some M) := by
  obtain ⟨ad, A3, c3, e, q0, q1, q2, q3, l3, g3⟩ := at_T34 X.hr a ha0 (by omega)
  subst e
  have hz : a.toNat < g.length := by omega
  have q0 := (H.bel.cell (World.block_lt_of_cell? w00 _ q0)).trans q0
  have q1 := (H.bel.cell (World.block_lt_of_cell? w00 _ q1)).trans q1
  have q2 := (H.bel.cell (World.block_lt_of_cell? w00 _ q2)).trans q2
  have q3 := (H.bel.cell (World.block_lt_of_cell? w00 _ q3)).trans q3
  have cg : W.cell? ⟨Bg, 0, none⟩ = some (.slice (some ad) g.length c) := (blk_cell H.bg 0).trans rfl
  have hpl : p < (rd_T34 g a).f3.length := (List.getElem?_eq_some_iff.1 hk).1
  have hmax := g3.2.1
  generalize rd_T34 g a = x at *
  have he : (x.f0 == 2) = true := by simp [h2]
  have hev : ((p : Int) % 2 == 0) = true := by simp; omega
  have hev2 : (Int.tmod (p : Int) 2 == 0) = true := by rw [Int.tmod_eq_emod_of_nonneg (by omega)]; exact hev
  have HH := Aside0.mk H
  have hu34 := Tryd.underlying34
  clear H X g3 h2 hp hk
  simp only [List.append_toArray, List.cons_append, List.nil_append]
  go_enter Tryd.func43, Tryd.ntmps43
  go_wp2
  go_ret
  exact ⟨rfl, StAt.keep (row := none) _ _ _ _ _ _ _ _ _ _ _ _ _ _ _ HH.out (World.grownBy_alloc _ _ _) (fun k e => by cases e) (fun k e => by cases e), World.grownBy_alloc _ _ _⟩
set_option maxHeartbeats 4000000 in
set_option maxRecDepth 100000 in
theorem states1_main (X : StFix g A c ps bs A0 c0 A1 c1 Bg Bo Bt M w00) (S : List (List Nat)) (W : World) (H : StAt g A c ps bs A0 c0 A1 c1 m Bg Bo Bt M w00 S W) (a k : Int) (p : Nat) (ha0 : 0 ≤ a) (ha1 : a < (g.length : Int)) (hk : (rd_T34 g a).f3[p]? = some k)
    (h2 : ¬ ((rd_T34 g a).f0 = 2 ∧ p % 2 = 0)) (h0 : (rd_T34 g a).f0 ≠ 0) (xs ys zs us : List Nat) (st : ByteArray) (hxs : xs = S.getD k.toNat []) (hys : ys = S.getD a.toNat []) (hst : st = (stepsL (rd_T34 g a).f0 (rd_T34 g a).f3 g).getD p ⟨#[]⟩) (hzs : zs = nfaStep (allParts ps bs) ys st) (hus : us = unionW xs zs) :
    Calls Tryd.prog 43 (#[.int .i64 a, .int .i64 k, .int .i64 (p : Int)] ++ #[.pointer (some ⟨Bg, 0, none⟩), .pointer (some ⟨Bo, 0, none⟩), .pointer (some ⟨Bt, 0, none⟩)]) W fun e W' => e = .returned (.bool (!decide (us = xs))) ∧ StAt g A c ps bs A0 c0 A1 c1 m Bg Bo Bt M w00 (S.set k.toNat us) W' ∧ W.grownBy W' (some M) := by
  obtain ⟨ad, A3, c3, e, q0, q1, q2, q3, l3, g3⟩ := at_T34 X.hr a ha0 (by omega)
  subst e
  have hza : a.toNat < g.length := by omega
  have hkr := X.kids _ (by unfold rd_T34; rw [getD_lt _ _ hza]; exact List.getElem_mem _) k (List.mem_of_getElem? hk)
  have hzk : k.toNat < g.length := by omega
  have q0 := (H.bel.cell (World.block_lt_of_cell? w00 _ q0)).trans q0
  have q1 := (H.bel.cell (World.block_lt_of_cell? w00 _ q1)).trans q1
  have q2 := (H.bel.cell (World.block_lt_of_cell? w00 _ q2)).trans q2
  have q3 := (H.bel.cell (World.block_lt_of_cell? w00 _ q3)).trans q3
  have hpl : p < (rd_T34 g a).f3.length := (List.getElem?_eq_some_iff.1 hk).1
  have hmax := g3.2.1
  have hfit := X.fit _ (show rd_T34 g a ∈ g by unfold rd_T34; rw [getD_lt _ _ hza]; exact List.getElem_mem _)
  have hsl : p < (stepsL (rd_T34 g a).f0 (rd_T34 g a).f3 g).length := by unfold stepsL; rw [if_neg h0]; simpa using hpl
  have cS : ∀ W', Below w00.heap.size w00 W' → _ := fun W' hb => steps_calls (rd_T34 g a) A3 c3 (some ad) c g W' (X.hT.below hb) (Kd.C_below g3 hb) l3 (Kd.C_below X.hr hb) X.hc hfit.2.2
  have oky : OkW ys := hys ▸ H.sets.get hza
  have okx : OkW xs := hxs ▸ H.sets.get hzk
  have cN : ∀ W', Below w00.heap.size w00 W' → _ := fun W' hb => step_any ps bs A0 c0 A1 c1 m ys oky st W' (X.tab.below hb)
  rw [← hzs] at cN
  have okz : OkW zs := by rw [hzs]; exact closeL_ok _ (stepL_ok _ _ _)
  have cU : ∀ W', _ := fun W' => union_any xs zs okx okz W'
  rw [← hus] at cU
  have oku : OkW us := by rw [hus]; exact unionW_ok okx okz
  obtain ⟨x0, x1, x2, x3, x4, x5, x6, x7, ex⟩ := cells8 okx
  obtain ⟨y0, y1, y2, y3, y4, y5, y6, y7, ey⟩ := cells8 oky
  obtain ⟨z0, z1, z2, z3, z4, z5, z6, z7, ez⟩ := cells8 okz
  obtain ⟨u0, u1, u2, u3, u4, u5, u6, u7, eu⟩ := cells8 oku
  have fx : ∀ j, j < 8 → W.cell? ⟨M, k.toNat * 8 + j, none⟩ = some (wordV (xs.getD j 0)) := fun j hj => (blk_cell H.bm _).trans (hxs ▸ flat_cell H.sets hzk hj)
  have fy : ∀ j, j < 8 → W.cell? ⟨M, a.toNat * 8 + j, none⟩ = some (wordV (ys.getD j 0)) := fun j hj => (blk_cell H.bm _).trans (hys ▸ flat_cell H.sets hza hj)
  have hm2 : W.heap.size = W.heap.size := rfl
  have hlt : ∀ (i : Nat) (o : Obj), W.heap[i]? = some o → i < W.heap.size := fun i o h => (Array.getElem?_eq_some_iff.1 h).1
  have lBg := hlt _ _ H.bg
  have lBo := hlt _ _ H.bo
  have lBt := hlt _ _ H.bt
  have lM := hlt _ _ H.bm
  have cg : W.cell? ⟨Bg, 0, none⟩ = some (.slice (some ad) g.length c) := (blk_cell H.bg 0).trans rfl
  have co : W.cell? ⟨Bo, 0, none⟩ = some (.slice (some ⟨M, 0, none⟩) g.length g.length) := (blk_cell H.bo 0).trans rfl
  have ct0 : W.cell? ⟨Bt, 0, none⟩ = some (.slice A0 ps.length c0) := (blk_cell H.bt 0).trans rfl
  have ct1 : W.cell? ⟨Bt, 1, none⟩ = some (.slice A1 bs.length c1) := (blk_cell H.bt 1).trans rfl
  have ct2 : W.cell? ⟨Bt, 2, none⟩ = some (.int .i64 m) := (blk_cell H.bt 2).trans rfl
  rw [ey, ez] at cN
  rw [ex, ez, eu] at cU
  simp only [setV, setCells, wordV, tabArg, List.map_cons, List.map_nil] at cN cU
  have CS := Aside0.mk cS
  have CN := Aside0.mk cN
  have CU := Aside0.mk cU
  have HH := Aside0.mk H
  have HST := Aside0.mk hst
  have HSL := Aside0.mk hsl
  have FX := Aside0.mk fx
  have FY := Aside0.mk fy
  have HXS := Aside0.mk hxs
  have OKU := Aside0.mk oku
  have EX := Aside0.mk ex
  have EY := Aside0.mk ey
  have EZ := Aside0.mk ez
  have EU := Aside0.mk eu
  have XX := Aside0.mk X
  have hu34 := Tryd.underlying34
  have h2b : ((rd_T34 g a).f0 == 2 && ((p : Int) % 2 == 0)) = false := by
    rw [Bool.and_eq_false_iff]
    by_cases h : (rd_T34 g a).f0 = 2
    · exact .inr (by simp; omega)
    · exact .inl (by simpa using h)
  clear cS cN cU H hst hsl fx fy ex ey ez eu X hxs hys hzs hus hlt hk g3 h2 h0 hm2 hfit
  generalize hgl : g.length = n at *
  generalize rd_T34 g a = x at *
  simp only [List.append_toArray, List.cons_append, List.nil_append]
  have HGL := Aside0.mk hgl
  clear hgl
  obtain ⟨W1, hW1⟩ : ∃ W1, W.alloc (.cells #[.int .i64 x.f0, .string x.f1, .string x.f2, .slice A3 x.f3.length c3] 34) = W1 := ⟨_, rfl⟩
  have hs1 : W1.heap.size = W.heap.size + 1 := by rw [← hW1]; simp
  have hbW : Below W.heap.size W W1 := by rw [← hW1]; exact below_alloc (Below.refl _ _) _
  have hnode : W1.heap[W.heap.size]? = some (.cells #[.int .i64 x.f0, .string x.f1, .string x.f2, .slice A3 x.f3.length c3] 34 (0, 0)) := by rw [← hW1]; exact heap_alloc_new _ _
  have hup : ∀ b o, b < W.heap.size → W1.cell? ⟨b, o, none⟩ = W.cell? ⟨b, o, none⟩ := fun b o h => hbW.cell (p := ⟨b, o, none⟩) h
  have dg : W1.cell? ⟨Bg, 0, none⟩ = some (.slice (some ad) n c) := (hup _ _ lBg).trans cg
  have do0 : W1.cell? ⟨Bo, 0, none⟩ = some (.slice (some ⟨M, 0, none⟩) n n) := (hup _ _ lBo).trans co
  have dt0 : W1.cell? ⟨Bt, 0, none⟩ = some (.slice A0 ps.length c0) := (hup _ _ lBt).trans ct0
  have dt1 : W1.cell? ⟨Bt, 1, none⟩ = some (.slice A1 bs.length c1) := (hup _ _ lBt).trans ct1
  have dt2 : W1.cell? ⟨Bt, 2, none⟩ = some (.int .i64 m) := (hup _ _ lBt).trans ct2
  have dn0 : W1.cell? ⟨W.heap.size, 0, none⟩ = some (.int .i64 x.f0) := (blk_cell hnode 0).trans rfl
  have dn1 : W1.cell? ⟨W.heap.size, 1, none⟩ = some (.string x.f1) := (blk_cell hnode 1).trans rfl
  have dn2 : W1.cell? ⟨W.heap.size, 2, none⟩ = some (.string x.f2) := (blk_cell hnode 2).trans rfl
  have dn3 : W1.cell? ⟨W.heap.size, 3, none⟩ = some (.slice A3 x.f3.length c3) := (blk_cell hnode 3).trans rfl
  have hx0 : W1.cell? ⟨M, k.toNat * 8, none⟩ = some (.int .u64 (x0 : Int)) := (hup _ _ lM).trans ((FX.out 0 (by omega)).trans (by rw [EX.out]; rfl))
  have hy0 : W1.cell? ⟨M, a.toNat * 8, none⟩ = some (.int .u64 (y0 : Int)) := (hup _ _ lM).trans ((FY.out 0 (by omega)).trans (by rw [EY.out]; rfl))
  have hx1 : W1.cell? ⟨M, k.toNat * 8 + 1, none⟩ = some (.int .u64 (x1 : Int)) := (hup _ _ lM).trans ((FX.out 1 (by omega)).trans (by rw [EX.out]; rfl))
  have hy1 : W1.cell? ⟨M, a.toNat * 8 + 1, none⟩ = some (.int .u64 (y1 : Int)) := (hup _ _ lM).trans ((FY.out 1 (by omega)).trans (by rw [EY.out]; rfl))
  have hx2 : W1.cell? ⟨M, k.toNat * 8 + 2, none⟩ = some (.int .u64 (x2 : Int)) := (hup _ _ lM).trans ((FX.out 2 (by omega)).trans (by rw [EX.out]; rfl))
  have hy2 : W1.cell? ⟨M, a.toNat * 8 + 2, none⟩ = some (.int .u64 (y2 : Int)) := (hup _ _ lM).trans ((FY.out 2 (by omega)).trans (by rw [EY.out]; rfl))
  have hx3 : W1.cell? ⟨M, k.toNat * 8 + 3, none⟩ = some (.int .u64 (x3 : Int)) := (hup _ _ lM).trans ((FX.out 3 (by omega)).trans (by rw [EX.out]; rfl))
  have hy3 : W1.cell? ⟨M, a.toNat * 8 + 3, none⟩ = some (.int .u64 (y3 : Int)) := (hup _ _ lM).trans ((FY.out 3 (by omega)).trans (by rw [EY.out]; rfl))
  have hx4 : W1.cell? ⟨M, k.toNat * 8 + 4, none⟩ = some (.int .u64 (x4 : Int)) := (hup _ _ lM).trans ((FX.out 4 (by omega)).trans (by rw [EX.out]; rfl))
  have hy4 : W1.cell? ⟨M, a.toNat * 8 + 4, none⟩ = some (.int .u64 (y4 : Int)) := (hup _ _ lM).trans ((FY.out 4 (by omega)).trans (by rw [EY.out]; rfl))
  have hx5 : W1.cell? ⟨M, k.toNat * 8 + 5, none⟩ = some (.int .u64 (x5 : Int)) := (hup _ _ lM).trans ((FX.out 5 (by omega)).trans (by rw [EX.out]; rfl))
  have hy5 : W1.cell? ⟨M, a.toNat * 8 + 5, none⟩ = some (.int .u64 (y5 : Int)) := (hup _ _ lM).trans ((FY.out 5 (by omega)).trans (by rw [EY.out]; rfl))
  have hx6 : W1.cell? ⟨M, k.toNat * 8 + 6, none⟩ = some (.int .u64 (x6 : Int)) := (hup _ _ lM).trans ((FX.out 6 (by omega)).trans (by rw [EX.out]; rfl))
  have hy6 : W1.cell? ⟨M, a.toNat * 8 + 6, none⟩ = some (.int .u64 (y6 : Int)) := (hup _ _ lM).trans ((FY.out 6 (by omega)).trans (by rw [EY.out]; rfl))
  have hx7 : W1.cell? ⟨M, k.toNat * 8 + 7, none⟩ = some (.int .u64 (x7 : Int)) := (hup _ _ lM).trans ((FX.out 7 (by omega)).trans (by rw [EX.out]; rfl))
  have hy7 : W1.cell? ⟨M, a.toNat * 8 + 7, none⟩ = some (.int .u64 (y7 : Int)) := (hup _ _ lM).trans ((FY.out 7 (by omega)).trans (by rw [EY.out]; rfl))
  have mBg : Bg < W1.heap.size := by omega
  have mBo : Bo < W1.heap.size := by omega
  have mBt : Bt < W1.heap.size := by omega
  have mM : M < W1.heap.size := by omega
  have mN : W.heap.size < W1.heap.size := by omega
  have hrule := held_cell (W1 := W1)
  have HBW := Aside0.mk hbW
  have HB00 : Aside0 (∀ w', Below W1.heap.size W1 w' → Below w00.heap.size w00 w') := ⟨fun w' h => (below_then HH.out.bel HH.out.bel.size hbW).trans (h.mono (by have := HH.out.bel.size; omega))⟩
  have HNODE := Aside0.mk hnode
  clear hup hnode hbW
  have HW1 := Aside0.mk hW1
  go_enter Tryd.func43, Tryd.ntmps43
  go_upto_region 2 with fail
  go_cut [23] (fun s23 wx => s23 = .bool false ∧ W1 = wx)
  case first =>
    have key : ∀ b1 b2 : Bool, (x.f0 == 2) = b1 → ((p : Int) % 2 == 0) = b2 → (b1 = false) ∨ (b1 = true ∧ b2 = false) := by
      intro b1 b2 e1 e2
      rw [e1, e2] at h2b
      cases b1 <;> cases b2 <;> simp_all
    have hb3 : (Int.tmod (p : Int) 2 == 0) = ((p : Int) % 2 == 0) := by rw [Int.tmod_eq_emod_of_nonneg (by omega)]
    rcases key _ _ rfl rfl with hb1 | ⟨hb1, hb2⟩
    · clear hb3 h2b key
      go_wp2
      go_meet
      exact ⟨rfl, rfl⟩
    · rw [hb2] at hb3
      clear h2b key
      go_wp2
      go_meet
      exact ⟨rfl, rfl⟩
  case rest =>
    obtain ⟨rfl, rfl⟩ := hcut
    clear h2b
    have HS1 := Aside0.mk hs1
    clear hW1 hs1
    clear cg co ct0 ct1 ct2 q0 q1 q2 q3
    go_upto_region 4 with fail
    go_cut [11] (fun s11 wx => ∃ N : Nat, s11 = .pointer (some ⟨N, 0, none⟩) ∧ Aside0 (W1.heap.size ≤ N) ∧ Aside0 (Below W1.heap.size W1 wx ∧ wx.heap[N]? = some (.cells #[.int .u64 (u0 : Int), .int .u64 (u1 : Int), .int .u64 (u2 : Int), .int .u64 (u3 : Int), .int .u64 (u4 : Int), .int .u64 (u5 : Int), .int .u64 (u6 : Int), .int .u64 (u7 : Int)] 67 (0, 0))))
    case first =>
      refine wp_region_held_drew (S := fun w' => Below W1.heap.size W1 w') (by kernel_rfl) (below_drew (Below.refl _ _)) (fun hS0 => ?_)
      refine wpAnyH_take (i := 0) (v := ?_) rfl (by kernel_rfl) (by kernel_rfl) (by kernel_rfl) (fun _ _ _ h => h) (Or.inl ⟨by rfl, ?_⟩) hS0 ?_
      rotate_left
      · intro w hSw
        try dsimp only at hSw
        go_simp
        all_goals with_reducible rfl
      try simp only [Act.put, List.setIfInBounds_toArray, List.set_cons_zero, List.set_cons_succ]
      refine wpAnyH_take (i := 1) (v := ?_) rfl (by kernel_rfl) (by kernel_rfl) (by kernel_rfl) (fun _ _ _ h => h) (Or.inl ⟨by rfl, ?_⟩) hS0 ?_
      rotate_left
      · intro w hSw
        try dsimp only at hSw
        go_simp
        all_goals with_reducible rfl
      try simp only [Act.put, List.setIfInBounds_toArray, List.set_cons_zero, List.set_cons_succ]
      refine wpAnyH_take (i := 2) (v := ?_) rfl (by kernel_rfl) (by kernel_rfl) (by kernel_rfl) (fun _ _ _ h => h) (Or.inl ⟨by rfl, ?_⟩) hS0 ?_
      rotate_left
      · intro w hSw
        try dsimp only at hSw
        go_simp
        all_goals with_reducible rfl
      try simp only [Act.put, List.setIfInBounds_toArray, List.set_cons_zero, List.set_cons_succ]
      refine wpAnyH_take (i := 3) (v := ?_) rfl (by kernel_rfl) (by kernel_rfl) (by kernel_rfl) (fun _ _ _ h => h) (Or.inl ⟨by rfl, ?_⟩) hS0 ?_
      rotate_left
      · intro w hSw
        try dsimp only at hSw
        go_simp
        all_goals with_reducible rfl
      try simp only [Act.put, List.setIfInBounds_toArray, List.set_cons_zero, List.set_cons_succ]
      refine wpAnyH_take (i := 4) (v := ?_) rfl (by kernel_rfl) (by kernel_rfl) (by kernel_rfl) (fun _ _ _ h => h) (Or.inl ⟨by rfl, ?_⟩) hS0 ?_
      rotate_left
      · intro w hSw
        try dsimp only at hSw
        go_simp
        all_goals with_reducible rfl
      try simp only [Act.put, List.setIfInBounds_toArray, List.set_cons_zero, List.set_cons_succ]
      refine wpAnyH_take (i := 5) (v := ?_) rfl (by kernel_rfl) (by kernel_rfl) (by kernel_rfl) (fun _ _ _ h => h) (Or.inl ⟨by rfl, ?_⟩) hS0 ?_
      rotate_left
      · intro w hSw
        try dsimp only at hSw
        go_simp
        all_goals with_reducible rfl
      try simp only [Act.put, List.setIfInBounds_toArray, List.set_cons_zero, List.set_cons_succ]
      refine wpAnyH_take (i := 6) (v := ?_) rfl (by kernel_rfl) (by kernel_rfl) (by kernel_rfl) (fun _ _ _ h => h) (Or.inl ⟨by rfl, ?_⟩) hS0 ?_
      rotate_left
      · intro w hSw
        try dsimp only at hSw
        go_simp
        all_goals with_reducible rfl
      try simp only [Act.put, List.setIfInBounds_toArray, List.set_cons_zero, List.set_cons_succ]
      refine wpAnyH_take (i := 7) (v := ?_) rfl (by kernel_rfl) (by kernel_rfl) (by kernel_rfl) (fun _ _ _ h => h) (Or.inl ⟨by rfl, ?_⟩) hS0 ?_
      rotate_left
      · intro w hSw
        try dsimp only at hSw
        go_simp
        all_goals with_reducible rfl
      try simp only [Act.put, List.setIfInBounds_toArray, List.set_cons_zero, List.set_cons_succ]
      refine wpAnyH_take (i := 8) (v := ?_) rfl (by kernel_rfl) (by kernel_rfl) (by kernel_rfl) (fun _ _ _ h => h) (Or.inl ⟨by rfl, ?_⟩) hS0 ?_
      rotate_left
      · intro w hSw
        try dsimp only at hSw
        go_simp
        all_goals with_reducible rfl
      try simp only [Act.put, List.setIfInBounds_toArray, List.set_cons_zero, List.set_cons_succ]
      refine wpAnyH_take (i := 9) (v := ?_) rfl (by kernel_rfl) (by kernel_rfl) (by kernel_rfl) (fun _ _ _ h => h) (Or.inl ⟨by rfl, ?_⟩) hS0 ?_
      rotate_left
      · intro w hSw
        try dsimp only at hSw
        go_simp
        all_goals with_reducible rfl
      try simp only [Act.put, List.setIfInBounds_toArray, List.set_cons_zero, List.set_cons_succ]
      refine wpAnyH_take (i := 10) (v := ?_) rfl (by kernel_rfl) (by kernel_rfl) (by kernel_rfl) (fun _ _ _ h => h) (Or.inl ⟨by rfl, ?_⟩) hS0 ?_
      rotate_left
      · intro w hSw
        try dsimp only at hSw
        go_simp
        all_goals with_reducible rfl
      try simp only [Act.put, List.setIfInBounds_toArray, List.set_cons_zero, List.set_cons_succ]
      refine wpAnyH_take (i := 12) (v := ?_) rfl (by kernel_rfl) (by kernel_rfl) (by kernel_rfl) (fun _ _ _ h => h) (Or.inl ⟨by rfl, ?_⟩) hS0 ?_
      rotate_left
      · intro w hSw
        try dsimp only at hSw
        go_simp
        all_goals with_reducible rfl
      try simp only [Act.put, List.setIfInBounds_toArray, List.set_cons_zero, List.set_cons_succ]
      refine wpAnyH_ready (rs := [11, 17]) (by kernel_rfl) (by simp) ?_
      refine AllReadyH.cons rfl (fun K hK => ?_) ?_
      · go_simp
        go_at_call 9; refine (CS.out _ (HB00.out _ hS0)).mono ?_; rintro e w5 ⟨v5, rfl, hR5, hb5⟩; obtain ⟨gb, o5, cap5, rfl, hgb, sc, hpL⟩ := str_at hR5 HSL.out; rw [← HST.out] at sc; clear hR5; have HB5 := Aside0.mk (held_call (W1 := W1) hS0 hb5); (first | (have yb := blk_below5 hb5 (heap_alloc_drew _ _)) | skip); clear hb5
        go_wp2_with fail
        refine hK.out _ _ ?_ (fun hS1 => ?_)
        · exact HB5.out
        clear hK K
        try simp only [Act.put, List.setIfInBounds_toArray, List.set_cons_zero, List.set_cons_succ]
        refine wpAnyH_take (i := 13) (v := ?_) rfl (by kernel_rfl) (by kernel_rfl) (by kernel_rfl) (fun _ _ _ h => h) (Or.inl ⟨by rfl, ?_⟩) hS1 ?_
        rotate_left
        · intro w hSw
          try dsimp only at hSw
          go_simp
          all_goals with_reducible rfl
        try simp only [Act.put, List.setIfInBounds_toArray, List.set_cons_zero, List.set_cons_succ]
        refine wpAnyH_ready (rs := [14, 17]) (by kernel_rfl) (by simp) ?_
        refine AllReadyH.cons rfl (fun K hK => ?_) ?_
        · go_simp
          refine hK.out _ _ ?_ (fun hS2 => ?_)
          · exact hS1
          clear hK K
          try simp only [Act.put, List.setIfInBounds_toArray, List.set_cons_zero, List.set_cons_succ]
          refine wpAnyH_ready (rs := [15, 17]) (by kernel_rfl) (by simp) ?_
          refine AllReadyH.cons rfl (fun K hK => ?_) ?_
          · go_simp
            go_at_call 45; refine (CN.out _ (HB00.out _ hS2)).mono ?_; rintro e w6 ⟨rfl, hb6⟩; have HB6 := Aside0.mk (held_call (W1 := W1) hS2 hb6); (first | (have yb := blk_below5 hb6 yb) | (have yb := blk_below5 hb6 (heap_alloc_new _ _)) | skip); clear hb6
            go_wp2_with fail
            refine hK.out _ _ ?_ (fun hS3 => ?_)
            · exact HB6.out
            clear hK K
            try simp only [Act.put, List.setIfInBounds_toArray, List.set_cons_zero, List.set_cons_succ]
            refine wpAnyH_ready (rs := [16, 17]) (by kernel_rfl) (by simp) ?_
            refine AllReadyH.cons rfl (fun K hK => ?_) ?_
            · go_simp
              go_at_call 44; refine (CU.out _).mono ?_; rintro e w7 ⟨rfl, hb7⟩; have HB7 := Aside0.mk (held_call (W1 := W1) hS3 hb7); (first | (have yb := blk_below5 hb7 yb) | (have yb := blk_below5 hb7 (heap_alloc_new _ _)) | skip); (try (have yc0 := (blk_cell yb 0).trans rfl; have yc1 := (blk_cell yb 1).trans rfl; have yc2 := (blk_cell yb 2).trans rfl; have yc3 := (blk_cell yb 3).trans rfl; have yc4 := (blk_cell yb 4).trans rfl; have yc5 := (blk_cell yb 5).trans rfl; have yc6 := (blk_cell yb 6).trans rfl; have yc7 := (blk_cell yb 7).trans rfl; have yf := fun o => blk_frozen yb o; have YB := Aside0.mk yb; clear yb)); clear hb7
              go_wp2_with fail
              refine hK.out _ _ ?_ (fun hS4 => ?_)
              · exact HB7.out
              clear hK K
              try simp only [Act.put, List.setIfInBounds_toArray, List.set_cons_zero, List.set_cons_succ]
              refine wpAnyH_ready (rs := [17]) (by kernel_rfl) (by simp) ?_
              refine AllReadyH.cons rfl (fun K hK => ?_) ?_
              · go_simp
                refine hK.out _ _ ?_ (fun hS5 => ?_)
                · first | exact below_alloc hS4 _ | exact below_drew (below_alloc (Below.refl _ _) _)
                clear hK K
                try simp only [Act.put, List.setIfInBounds_toArray, List.set_cons_zero, List.set_cons_succ]
                refine wpAnyH_ready (rs := [18]) (by kernel_rfl) (by simp) ?_
                refine AllReadyH.cons rfl (fun K hK => ?_) ?_
                · go_simp
                  refine hK.out _ _ ?_ (fun hS6 => ?_)
                  · first | (with_reducible exact below_alloc HB7.out _) | ((with_reducible refine below_set8 HB7.out ?_); first | exact HB6.out.size | exact HB5.out.size | exact Nat.le_refl _)
                  clear hK K
                  try simp only [Act.put, List.setIfInBounds_toArray, List.set_cons_zero, List.set_cons_succ]
                  refine wpAnyH_done (by kernel_rfl) ?_ _
                  go_wp2_with fail
                  go_meet
                  first
                    | (with_reducible exact ⟨w7.heap.size, rfl, ⟨HB7.out.size⟩, ⟨below_alloc HB7.out _, heap_alloc_new _ _⟩⟩)
                    | (with_reducible exact ⟨w6.heap.size, rfl, ⟨HB6.out.size⟩, ⟨below_set8 HB7.out (HB6.out.size), heap_set8 YB.out⟩⟩)
                    | (with_reducible exact ⟨w5.heap.size, rfl, ⟨HB5.out.size⟩, ⟨below_set8 HB7.out (HB5.out.size), heap_set8 YB.out⟩⟩)
                    | (with_reducible exact ⟨W1.heap.size, rfl, ⟨Nat.le_refl _⟩, ⟨below_set8 HB7.out (Nat.le_refl _), heap_set8 YB.out⟩⟩)
                exact AllReadyH.nil
              exact AllReadyH.nil
            refine AllReadyH.cons rfl (fun K hK => ?_) ?_
            · go_simp
              refine hK.out _ _ ?_ (fun hS4 => ?_)
              · first | exact below_alloc hS3 _ | exact below_drew (below_alloc (Below.refl _ _) _)
              clear hK K
              try simp only [Act.put, List.setIfInBounds_toArray, List.set_cons_zero, List.set_cons_succ]
              refine wpAnyH_ready (rs := [16]) (by kernel_rfl) (by simp) ?_
              refine AllReadyH.cons rfl (fun K hK => ?_) ?_
              · go_simp
                go_at_call 44; refine (CU.out _).mono ?_; rintro e w7 ⟨rfl, hb7⟩; have HB7 := Aside0.mk (held_call (W1 := W1) hS4 hb7); (first | (have yb := blk_below5 hb7 yb) | (have yb := blk_below5 hb7 (heap_alloc_new _ _)) | skip); (try (have yc0 := (blk_cell yb 0).trans rfl; have yc1 := (blk_cell yb 1).trans rfl; have yc2 := (blk_cell yb 2).trans rfl; have yc3 := (blk_cell yb 3).trans rfl; have yc4 := (blk_cell yb 4).trans rfl; have yc5 := (blk_cell yb 5).trans rfl; have yc6 := (blk_cell yb 6).trans rfl; have yc7 := (blk_cell yb 7).trans rfl; have yf := fun o => blk_frozen yb o; have YB := Aside0.mk yb; clear yb)); clear hb7
                go_wp2_with fail
                refine hK.out _ _ ?_ (fun hS5 => ?_)
                · exact HB7.out
                clear hK K
                try simp only [Act.put, List.setIfInBounds_toArray, List.set_cons_zero, List.set_cons_succ]
                refine wpAnyH_ready (rs := [18]) (by kernel_rfl) (by simp) ?_
                refine AllReadyH.cons rfl (fun K hK => ?_) ?_
                · go_simp
                  refine hK.out _ _ ?_ (fun hS6 => ?_)
                  · first | (with_reducible exact below_alloc HB7.out _) | ((with_reducible refine below_set8 HB7.out ?_); first | exact HB6.out.size | exact HB5.out.size | exact Nat.le_refl _)
                  clear hK K
                  try simp only [Act.put, List.setIfInBounds_toArray, List.set_cons_zero, List.set_cons_succ]
                  refine wpAnyH_done (by kernel_rfl) ?_ _
                  go_wp2_with fail
                  go_meet
                  first
                    | (with_reducible exact ⟨w7.heap.size, rfl, ⟨HB7.out.size⟩, ⟨below_alloc HB7.out _, heap_alloc_new _ _⟩⟩)
                    | (with_reducible exact ⟨w6.heap.size, rfl, ⟨HB6.out.size⟩, ⟨below_set8 HB7.out (HB6.out.size), heap_set8 YB.out⟩⟩)
                    | (with_reducible exact ⟨w5.heap.size, rfl, ⟨HB5.out.size⟩, ⟨below_set8 HB7.out (HB5.out.size), heap_set8 YB.out⟩⟩)
                    | (with_reducible exact ⟨W1.heap.size, rfl, ⟨Nat.le_refl _⟩, ⟨below_set8 HB7.out (Nat.le_refl _), heap_set8 YB.out⟩⟩)
                exact AllReadyH.nil
              exact AllReadyH.nil
            exact AllReadyH.nil
          refine AllReadyH.cons rfl (fun K hK => ?_) ?_
          · go_simp
            refine hK.out _ _ ?_ (fun hS3 => ?_)
            · first | exact below_alloc hS2 _ | exact below_drew (below_alloc (Below.refl _ _) _)
            clear hK K
            try simp only [Act.put, List.setIfInBounds_toArray, List.set_cons_zero, List.set_cons_succ]
            refine wpAnyH_ready (rs := [15]) (by kernel_rfl) (by simp) ?_
            refine AllReadyH.cons rfl (fun K hK => ?_) ?_
            · go_simp
              go_at_call 45; refine (CN.out _ (HB00.out _ hS3)).mono ?_; rintro e w6 ⟨rfl, hb6⟩; have HB6 := Aside0.mk (held_call (W1 := W1) hS3 hb6); (first | (have yb := blk_below5 hb6 yb) | (have yb := blk_below5 hb6 (heap_alloc_new _ _)) | skip); clear hb6
              go_wp2_with fail
              refine hK.out _ _ ?_ (fun hS4 => ?_)
              · exact HB6.out
              clear hK K
              try simp only [Act.put, List.setIfInBounds_toArray, List.set_cons_zero, List.set_cons_succ]
              refine wpAnyH_ready (rs := [16]) (by kernel_rfl) (by simp) ?_
              refine AllReadyH.cons rfl (fun K hK => ?_) ?_
              · go_simp
                go_at_call 44; refine (CU.out _).mono ?_; rintro e w7 ⟨rfl, hb7⟩; have HB7 := Aside0.mk (held_call (W1 := W1) hS4 hb7); (first | (have yb := blk_below5 hb7 yb) | (have yb := blk_below5 hb7 (heap_alloc_new _ _)) | skip); (try (have yc0 := (blk_cell yb 0).trans rfl; have yc1 := (blk_cell yb 1).trans rfl; have yc2 := (blk_cell yb 2).trans rfl; have yc3 := (blk_cell yb 3).trans rfl; have yc4 := (blk_cell yb 4).trans rfl; have yc5 := (blk_cell yb 5).trans rfl; have yc6 := (blk_cell yb 6).trans rfl; have yc7 := (blk_cell yb 7).trans rfl; have yf := fun o => blk_frozen yb o; have YB := Aside0.mk yb; clear yb)); clear hb7
                go_wp2_with fail
                refine hK.out _ _ ?_ (fun hS5 => ?_)
                · exact HB7.out
                clear hK K
                try simp only [Act.put, List.setIfInBounds_toArray, List.set_cons_zero, List.set_cons_succ]
                refine wpAnyH_ready (rs := [18]) (by kernel_rfl) (by simp) ?_
                refine AllReadyH.cons rfl (fun K hK => ?_) ?_
                · go_simp
                  refine hK.out _ _ ?_ (fun hS6 => ?_)
                  · first | (with_reducible exact below_alloc HB7.out _) | ((with_reducible refine below_set8 HB7.out ?_); first | exact HB6.out.size | exact HB5.out.size | exact Nat.le_refl _)
                  clear hK K
                  try simp only [Act.put, List.setIfInBounds_toArray, List.set_cons_zero, List.set_cons_succ]
                  refine wpAnyH_done (by kernel_rfl) ?_ _
                  go_wp2_with fail
                  go_meet
                  first
                    | (with_reducible exact ⟨w7.heap.size, rfl, ⟨HB7.out.size⟩, ⟨below_alloc HB7.out _, heap_alloc_new _ _⟩⟩)
                    | (with_reducible exact ⟨w6.heap.size, rfl, ⟨HB6.out.size⟩, ⟨below_set8 HB7.out (HB6.out.size), heap_set8 YB.out⟩⟩)
                    | (with_reducible exact ⟨w5.heap.size, rfl, ⟨HB5.out.size⟩, ⟨below_set8 HB7.out (HB5.out.size), heap_set8 YB.out⟩⟩)
                    | (with_reducible exact ⟨W1.heap.size, rfl, ⟨Nat.le_refl _⟩, ⟨below_set8 HB7.out (Nat.le_refl _), heap_set8 YB.out⟩⟩)
                exact AllReadyH.nil
              exact AllReadyH.nil
            exact AllReadyH.nil
          exact AllReadyH.nil
        refine AllReadyH.cons rfl (fun K hK => ?_) ?_
        · go_simp
          refine hK.out _ _ ?_ (fun hS2 => ?_)
          · first | exact below_alloc hS1 _ | exact below_drew (below_alloc (Below.refl _ _) _)
          clear hK K
          try simp only [Act.put, List.setIfInBounds_toArray, List.set_cons_zero, List.set_cons_succ]
          refine wpAnyH_ready (rs := [14]) (by kernel_rfl) (by simp) ?_
          refine AllReadyH.cons rfl (fun K hK => ?_) ?_
          · go_simp
            refine hK.out _ _ ?_ (fun hS3 => ?_)
            · exact hS2
            clear hK K
            try simp only [Act.put, List.setIfInBounds_toArray, List.set_cons_zero, List.set_cons_succ]
            refine wpAnyH_ready (rs := [15]) (by kernel_rfl) (by simp) ?_
            refine AllReadyH.cons rfl (fun K hK => ?_) ?_
            · go_simp
              go_at_call 45; refine (CN.out _ (HB00.out _ hS3)).mono ?_; rintro e w6 ⟨rfl, hb6⟩; have HB6 := Aside0.mk (held_call (W1 := W1) hS3 hb6); (first | (have yb := blk_below5 hb6 yb) | (have yb := blk_below5 hb6 (heap_alloc_new _ _)) | skip); clear hb6
              go_wp2_with fail
              refine hK.out _ _ ?_ (fun hS4 => ?_)
              · exact HB6.out
              clear hK K
              try simp only [Act.put, List.setIfInBounds_toArray, List.set_cons_zero, List.set_cons_succ]
              refine wpAnyH_ready (rs := [16]) (by kernel_rfl) (by simp) ?_
              refine AllReadyH.cons rfl (fun K hK => ?_) ?_
              · go_simp
                go_at_call 44; refine (CU.out _).mono ?_; rintro e w7 ⟨rfl, hb7⟩; have HB7 := Aside0.mk (held_call (W1 := W1) hS4 hb7); (first | (have yb := blk_below5 hb7 yb) | (have yb := blk_below5 hb7 (heap_alloc_new _ _)) | skip); (try (have yc0 := (blk_cell yb 0).trans rfl; have yc1 := (blk_cell yb 1).trans rfl; have yc2 := (blk_cell yb 2).trans rfl; have yc3 := (blk_cell yb 3).trans rfl; have yc4 := (blk_cell yb 4).trans rfl; have yc5 := (blk_cell yb 5).trans rfl; have yc6 := (blk_cell yb 6).trans rfl; have yc7 := (blk_cell yb 7).trans rfl; have yf := fun o => blk_frozen yb o; have YB := Aside0.mk yb; clear yb)); clear hb7
                go_wp2_with fail
                refine hK.out _ _ ?_ (fun hS5 => ?_)
                · exact HB7.out
                clear hK K
                try simp only [Act.put, List.setIfInBounds_toArray, List.set_cons_zero, List.set_cons_succ]
                refine wpAnyH_ready (rs := [18]) (by kernel_rfl) (by simp) ?_
                refine AllReadyH.cons rfl (fun K hK => ?_) ?_
                · go_simp
                  refine hK.out _ _ ?_ (fun hS6 => ?_)
                  · first | (with_reducible exact below_alloc HB7.out _) | ((with_reducible refine below_set8 HB7.out ?_); first | exact HB6.out.size | exact HB5.out.size | exact Nat.le_refl _)
                  clear hK K
                  try simp only [Act.put, List.setIfInBounds_toArray, List.set_cons_zero, List.set_cons_succ]
                  refine wpAnyH_done (by kernel_rfl) ?_ _
                  go_wp2_with fail
                  go_meet
                  first
                    | (with_reducible exact ⟨w7.heap.size, rfl, ⟨HB7.out.size⟩, ⟨below_alloc HB7.out _, heap_alloc_new _ _⟩⟩)
                    | (with_reducible exact ⟨w6.heap.size, rfl, ⟨HB6.out.size⟩, ⟨below_set8 HB7.out (HB6.out.size), heap_set8 YB.out⟩⟩)
                    | (with_reducible exact ⟨w5.heap.size, rfl, ⟨HB5.out.size⟩, ⟨below_set8 HB7.out (HB5.out.size), heap_set8 YB.out⟩⟩)
                    | (with_reducible exact ⟨W1.heap.size, rfl, ⟨Nat.le_refl _⟩, ⟨below_set8 HB7.out (Nat.le_refl _), heap_set8 YB.out⟩⟩)
                exact AllReadyH.nil
              exact AllReadyH.nil
            exact AllReadyH.nil
          exact AllReadyH.nil
        exact AllReadyH.nil
      refine AllReadyH.cons rfl (fun K hK => ?_) ?_
      · go_simp
        refine hK.out _ _ ?_ (fun hS1 => ?_)
        · first | exact below_alloc hS0 _ | exact below_drew (below_alloc (Below.refl _ _) _)
        clear hK K
        try simp only [Act.put, List.setIfInBounds_toArray, List.set_cons_zero, List.set_cons_succ]
        refine wpAnyH_ready (rs := [11]) (by kernel_rfl) (by simp) ?_
        refine AllReadyH.cons rfl (fun K hK => ?_) ?_
        · go_simp
          go_at_call 9; refine (CS.out _ (HB00.out _ hS1)).mono ?_; rintro e w5 ⟨v5, rfl, hR5, hb5⟩; obtain ⟨gb, o5, cap5, rfl, hgb, sc, hpL⟩ := str_at hR5 HSL.out; rw [← HST.out] at sc; clear hR5; have HB5 := Aside0.mk (held_call (W1 := W1) hS1 hb5); (first | (have yb := blk_below5 hb5 (heap_alloc_drew _ _)) | skip); clear hb5
          go_wp2_with fail
          refine hK.out _ _ ?_ (fun hS2 => ?_)
          · exact HB5.out
          clear hK K
          try simp only [Act.put, List.setIfInBounds_toArray, List.set_cons_zero, List.set_cons_succ]
          refine wpAnyH_take (i := 13) (v := ?_) rfl (by kernel_rfl) (by kernel_rfl) (by kernel_rfl) (fun _ _ _ h => h) (Or.inl ⟨by rfl, ?_⟩) hS2 ?_
          rotate_left
          · intro w hSw
            try dsimp only at hSw
            go_simp
            all_goals with_reducible rfl
          try simp only [Act.put, List.setIfInBounds_toArray, List.set_cons_zero, List.set_cons_succ]
          refine wpAnyH_ready (rs := [14]) (by kernel_rfl) (by simp) ?_
          refine AllReadyH.cons rfl (fun K hK => ?_) ?_
          · go_simp
            refine hK.out _ _ ?_ (fun hS3 => ?_)
            · exact hS2
            clear hK K
            try simp only [Act.put, List.setIfInBounds_toArray, List.set_cons_zero, List.set_cons_succ]
            refine wpAnyH_ready (rs := [15]) (by kernel_rfl) (by simp) ?_
            refine AllReadyH.cons rfl (fun K hK => ?_) ?_
            · go_simp
              go_at_call 45; refine (CN.out _ (HB00.out _ hS3)).mono ?_; rintro e w6 ⟨rfl, hb6⟩; have HB6 := Aside0.mk (held_call (W1 := W1) hS3 hb6); (first | (have yb := blk_below5 hb6 yb) | (have yb := blk_below5 hb6 (heap_alloc_new _ _)) | skip); clear hb6
              go_wp2_with fail
              refine hK.out _ _ ?_ (fun hS4 => ?_)
              · exact HB6.out
              clear hK K
              try simp only [Act.put, List.setIfInBounds_toArray, List.set_cons_zero, List.set_cons_succ]
              refine wpAnyH_ready (rs := [16]) (by kernel_rfl) (by simp) ?_
              refine AllReadyH.cons rfl (fun K hK => ?_) ?_
              · go_simp
                go_at_call 44; refine (CU.out _).mono ?_; rintro e w7 ⟨rfl, hb7⟩; have HB7 := Aside0.mk (held_call (W1 := W1) hS4 hb7); (first | (have yb := blk_below5 hb7 yb) | (have yb := blk_below5 hb7 (heap_alloc_new _ _)) | skip); (try (have yc0 := (blk_cell yb 0).trans rfl; have yc1 := (blk_cell yb 1).trans rfl; have yc2 := (blk_cell yb 2).trans rfl; have yc3 := (blk_cell yb 3).trans rfl; have yc4 := (blk_cell yb 4).trans rfl; have yc5 := (blk_cell yb 5).trans rfl; have yc6 := (blk_cell yb 6).trans rfl; have yc7 := (blk_cell yb 7).trans rfl; have yf := fun o => blk_frozen yb o; have YB := Aside0.mk yb; clear yb)); clear hb7
                go_wp2_with fail
                refine hK.out _ _ ?_ (fun hS5 => ?_)
                · exact HB7.out
                clear hK K
                try simp only [Act.put, List.setIfInBounds_toArray, List.set_cons_zero, List.set_cons_succ]
                refine wpAnyH_ready (rs := [18]) (by kernel_rfl) (by simp) ?_
                refine AllReadyH.cons rfl (fun K hK => ?_) ?_
                · go_simp
                  refine hK.out _ _ ?_ (fun hS6 => ?_)
                  · first | (with_reducible exact below_alloc HB7.out _) | ((with_reducible refine below_set8 HB7.out ?_); first | exact HB6.out.size | exact HB5.out.size | exact Nat.le_refl _)
                  clear hK K
                  try simp only [Act.put, List.setIfInBounds_toArray, List.set_cons_zero, List.set_cons_succ]
                  refine wpAnyH_done (by kernel_rfl) ?_ _
                  go_wp2_with fail
                  go_meet
                  first
                    | (with_reducible exact ⟨w7.heap.size, rfl, ⟨HB7.out.size⟩, ⟨below_alloc HB7.out _, heap_alloc_new _ _⟩⟩)
                    | (with_reducible exact ⟨w6.heap.size, rfl, ⟨HB6.out.size⟩, ⟨below_set8 HB7.out (HB6.out.size), heap_set8 YB.out⟩⟩)
                    | (with_reducible exact ⟨w5.heap.size, rfl, ⟨HB5.out.size⟩, ⟨below_set8 HB7.out (HB5.out.size), heap_set8 YB.out⟩⟩)
                    | (with_reducible exact ⟨W1.heap.size, rfl, ⟨Nat.le_refl _⟩, ⟨below_set8 HB7.out (Nat.le_refl _), heap_set8 YB.out⟩⟩)
                exact AllReadyH.nil
              exact AllReadyH.nil
            exact AllReadyH.nil
          exact AllReadyH.nil
        exact AllReadyH.nil
      exact AllReadyH.nil
    case rest =>
      obtain ⟨N, rfl, HN, F8⟩ := hcut
      have do1 : wc.cell? ⟨Bo, 0, none⟩ = some (.slice (some ⟨M, 0, none⟩) n n) := (hrule wc F8.out.1 _ _ mBo).trans do0
      have v0 : wc.cell? ⟨N, 0, none⟩ = some (.int .u64 (u0 : Int)) := (blk_cell F8.out.2 0).trans rfl
      have v1 : wc.cell? ⟨N, 1, none⟩ = some (.int .u64 (u1 : Int)) := (blk_cell F8.out.2 1).trans rfl
      have v2 : wc.cell? ⟨N, 2, none⟩ = some (.int .u64 (u2 : Int)) := (blk_cell F8.out.2 2).trans rfl
      have v3 : wc.cell? ⟨N, 3, none⟩ = some (.int .u64 (u3 : Int)) := (blk_cell F8.out.2 3).trans rfl
      have v4 : wc.cell? ⟨N, 4, none⟩ = some (.int .u64 (u4 : Int)) := (blk_cell F8.out.2 4).trans rfl
      have v5 : wc.cell? ⟨N, 5, none⟩ = some (.int .u64 (u5 : Int)) := (blk_cell F8.out.2 5).trans rfl
      have v6 : wc.cell? ⟨N, 6, none⟩ = some (.int .u64 (u6 : Int)) := (blk_cell F8.out.2 6).trans rfl
      have v7 : wc.cell? ⟨N, 7, none⟩ = some (.int .u64 (u7 : Int)) := (blk_cell F8.out.2 7).trans rfl
      have w0 : wc.cell? ⟨M, k.toNat * 8, none⟩ = some (.int .u64 (x0 : Int)) := (hrule wc F8.out.1 _ _ mM).trans hx0
      have w1 : wc.cell? ⟨M, k.toNat * 8 + 1, none⟩ = some (.int .u64 (x1 : Int)) := (hrule wc F8.out.1 _ _ mM).trans hx1
      have w2 : wc.cell? ⟨M, k.toNat * 8 + 2, none⟩ = some (.int .u64 (x2 : Int)) := (hrule wc F8.out.1 _ _ mM).trans hx2
      have w3 : wc.cell? ⟨M, k.toNat * 8 + 3, none⟩ = some (.int .u64 (x3 : Int)) := (hrule wc F8.out.1 _ _ mM).trans hx3
      have w4 : wc.cell? ⟨M, k.toNat * 8 + 4, none⟩ = some (.int .u64 (x4 : Int)) := (hrule wc F8.out.1 _ _ mM).trans hx4
      have w5 : wc.cell? ⟨M, k.toNat * 8 + 5, none⟩ = some (.int .u64 (x5 : Int)) := (hrule wc F8.out.1 _ _ mM).trans hx5
      have w6 : wc.cell? ⟨M, k.toNat * 8 + 6, none⟩ = some (.int .u64 (x6 : Int)) := (hrule wc F8.out.1 _ _ mM).trans hx6
      have w7 : wc.cell? ⟨M, k.toNat * 8 + 7, none⟩ = some (.int .u64 (x7 : Int)) := (hrule wc F8.out.1 _ _ mM).trans hx7
      clear hx0 hx1 hx2 hx3 hx4 hx5 hx6 hx7 hy0 hy1 hy2 hy3 hy4 hy5 hy6 hy7 dg do0 dt0 dt1 dt2 dn0 dn1 dn2 dn3
      have HRULE := Aside0.mk hrule
      clear hrule
      have heq := fun w => eq_sets oku okx w
      generalize hq : decide (us = xs) = q at heq ⊢
      rw [EU.out, EX.out] at heq
      simp only [setCells, wordV, List.map_cons, List.map_nil] at heq
      have HQ := Aside0.mk hq
      clear hq
      have hWc : Aside0 (Below W.heap.size W wc) := ⟨HBW.out.trans (F8.out.1.mono (by have := HBW.out.size; omega))⟩
      have hbm : Aside0 (wc.heap[M]? = some (.cells (setCells S.flatten) 67 (0, 0))) := ⟨blk_below5 hWc.out HH.out.bm⟩
      have fz : ∀ j, wc.frozen? ⟨M, j, none⟩ = false := fun j => blk_frozen hbm.out j
      cases q with
      | true =>
        go_wp2
        go_quiet (fail)
        go_wp2
        go_ret
        have e : S.set k.toNat us = S := by
          have h1 : us = xs := of_decide_eq_true HQ.out
          rw [h1, HXS.out]
          have hl : k.toNat < S.length := by rw [HH.out.sets.1, HGL.out]; exact hzk
          rw [getD_lt _ _ hl, List.set_getElem_self]
        rw [e]
        exact ⟨by rw [HQ.out]; rfl, StAt.keep (row := none) _ _ _ _ _ _ _ _ _ _ _ _ _ _ _ HH.out (grown_of_below (pw_below_drewN hWc.out _) _) (fun j e => by cases e) (fun j e => by cases e), grown_of_below (pw_below_drewN hWc.out _) _⟩
      | false =>
        go_wp2
        go_quiet (fail)
        go_wp2
        go_ret
        have hb0 := pw_below_drewN hWc.out nq
        have g0 : W.grownBy (wc.drewN nq) (some M) := grown_of_below hb0 _
        have hbm1 : (wc.drewN nq).heap[M]? = some (.cells (setCells S.flatten) 67 (0, 0)) := hbm.out
        generalize wc.drewN nq = wq at *
        have g8 := (((((((((g0.trans (grown_cell wq M (k.toNat * 8) (.int .u64 (u0 : Int)))).trans (grown_cell _ M (k.toNat * 8 + 1) (.int .u64 (u1 : Int)))).trans (grown_cell _ M (k.toNat * 8 + 2) (.int .u64 (u2 : Int)))).trans (grown_cell _ M (k.toNat * 8 + 3) (.int .u64 (u3 : Int)))).trans (grown_cell _ M (k.toNat * 8 + 4) (.int .u64 (u4 : Int)))).trans (grown_cell _ M (k.toNat * 8 + 5) (.int .u64 (u5 : Int)))).trans (grown_cell _ M (k.toNat * 8 + 6) (.int .u64 (u6 : Int)))).trans (grown_cell _ M (k.toNat * 8 + 7) (.int .u64 (u7 : Int)))))
        have hne : ∀ b, b ≠ M → some b ≠ some M := fun b h e => h (by injection e)
        refine ⟨by rw [HQ.out]; rfl, ⟨?_, HH.out.bel.grown g8 HH.out.bel.size (fun j e => by cases e; exact XX.out.hM), blk_grown HH.out.bg g8 (hne _ XX.out.ng), blk_grown HH.out.bo g8 (hne _ XX.out.no), blk_grown HH.out.bt g8 (hne _ XX.out.nt), ?_⟩, g8⟩
        · exact HH.out.sets.set _ OKU.out
        · rw [blk_set (blk_set (blk_set (blk_set (blk_set (blk_set (blk_set (blk_set hbm1 _ _) _ _) _ _) _ _) _ _) _ _) _ _) _ _]
          have h := flat_set8 HH.out.sets (show k.toNat < g.length by rw [HGL.out]; exact hzk) u0 u1 u2 u3 u4 u5 u6 u7
          rw [← EU.out] at h
          rw [← h]
          rfl
end
end Go.Proofs.YtpbkdeelkpjccaaDoor.G
