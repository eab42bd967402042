/- Merged by merge.py out of: Hclosed, Hstart, Hunion, Hstep. -/
import Derived.Test.YtpbkdeelkpjccaaDoorM03
import Derived.Deep.MidRow
import Derived.Deep.LoopGhost
namespace Go.Proofs.YtpbkdeelkpjccaaDoor.G
open Go.RowKit Go.Proofs.YtpbkdeelkpjccaaDoorW.PrintWords
set_option linter.unusedVariables false
set_option linter.unusedSimpArgs false
attribute [local go_sem] Oper.semAt_some
abbrev tabBox (ps : List (List S71)) (bs : List Int) (A0 : Option Addr) (c0 : Nat) (A1 : Option Addr) (c1 : Nat) (m : Int) : Obj := .cells #[.slice A0 ps.length c0, .slice A1 bs.length c1, .int .i64 m] 80 (0, 0)
def KpT (n0 Bn : Nat) (W W' : World) : Prop := Below n0 W W' ∧ W'.heap[Bn]? = W.heap[Bn]?
theorem parts_any (ps : List (List S71)) (bs : List Int) (A0 : Option Addr) (c0 : Nat) (A1 : Option Addr) (c1 : Nat) (m : Int) (w : World) :
    Calls Tryd.prog 66 #[tabArg ps bs A0 c0 A1 c1 m] w fun e w' => e = .returned (.func (.func 76) #[] #[.pointer (some ⟨w.heap.size, 0, none⟩)]) ∧ w' = w.alloc (.cells #[.slice A0 ps.length c0, .slice A1 bs.length c1, .int .i64 m] 80) := by
  have hu80 := Tryd.underlying80
  unfold tabArg
  generalize ps.length = n0
  generalize bs.length = n1
  go_enter Tryd.func66, Tryd.ntmps66
  go_wp2
  go_ret
  exact ⟨rfl, rfl⟩
theorem parts_stops (n : Nat) (hn : 1 ≤ n) (ps : List (List S71)) (bs : List Int) (A0 : Option Addr) (c0 : Nat) (A1 : Option Addr) (c1 : Nat) (m : Int) (Bn : Nat) (w0 : World) (hT : TabAt ps bs A0 c0 A1 c1 w0) (w : World) (hw : Below w0.heap.size w0 w) (hB : w.heap[Bn]? = some (tabBox ps bs A0 c0 A1 c1 m)) :
    SeqStopsK Fence.wide n Tryd.prog 76 #[.pointer (some ⟨Bn, 0, none⟩)] partV (KpT w0.heap.size Bn) (fun ys => ys = allParts ps bs) (fun pre => pre <+: allParts ps bs) (allParts ps bs).length w := fun l J Jx W hW hJ hJx hY h0 =>
  parts1_in n hn ps bs A0 c0 A1 c1 m l Bn w0 hT J Jx W hJ (fun pre x W1 h1 h2 => by
    obtain ⟨fn, tmps, assign, body, hy, hR⟩ := hY pre x W1 h1 h2
    refine ⟨fn, tmps, assign, body, hy, hR.mono ?_⟩
    rintro e W' (⟨rfl, h3, h4, h5⟩ | h)
    · exact .inl ⟨rfl, h3, h4, h5⟩
    · exact .inr h) (below_then hw hw.size hW) (blk_below5 hW hB) h0
def closeOne (ws : List Nat) (x : Int × S71) : List Nat := if (x.2.f0 == 2) && inW ws x.1 then putW ws (wrap64 (x.1 + 1)) else ws
def closeL (pl : List (Int × S71)) (ws : List Nat) : List Nat := pl.foldl closeOne ws
theorem closeL_snoc (pl : List (Int × S71)) (x : Int × S71) (ws : List Nat) : closeL (pl ++ [x]) ws = closeOne (closeL pl ws) x := by simp [closeL]
theorem closeOne_ok {ws : List Nat} (h : OkW ws) (x : Int × S71) : OkW (closeOne ws x) := by
  unfold closeOne
  split
  · exact putW_ok h _
  · exact h
theorem closeL_ok (pl : List (Int × S71)) : ∀ {ws : List Nat}, OkW ws → OkW (closeL pl ws) := by
  induction pl with
  | nil => exact fun h => h
  | cons x pl ih => exact fun h => ih (closeOne_ok h x)
theorem ownFrom_block {β : Type} {B i : Nat} (hi : i < B) (o : β → Obj) : OwnFrom B (fun s W => W.heap[i]? = some (o s)) := fun s W W' row hs hg hr =>
  (hg.block i (Array.getElem?_eq_some_iff.1 hs).1 (fun e => by have := (hr i e.symm).1; omega)).trans hs
theorem infoSet : (Tryd.prog.info? 67).map (·.size) = some 8 := by kernel_rfl
theorem setCells_size {ws : List Nat} (h : OkW ws) : (setCells ws).size = 8 := by simp [setCells, h.len]
theorem set_one (ws : List Nat) : (setCells ws).all (·.oneCell') = true := by
  simp [setCells, wordV, Value.oneCell']
theorem wpListIn_load_set {F : Fence} {n : Nat} {ops : Array Oper} {rest : List Oper} {o : Oper} {a : Act} {Q : Exit → Act → World → Prop} {w : World} (hw : Region.wanted o (yielded ops a.tmps) = true) (x : Operand) (ho : o.op = .load 67 x)
    (B : Nat) (hx : a.eval x = .pointer (some ⟨B, 0, none⟩)) (cs : Array Value) (hs : cs.size = 8) (hB : w.heap[B]? = some (.cells cs 67 (0, 0)))
    (h : wpListIn F n Tryd.prog ops Q rest (a.put o.dst (.agg cs)) w) : wpListIn F n Tryd.prog ops Q (o :: rest) a w := by
  refine wpListIn_step fun K hK => ?_
  rw [if_pos hw]
  unfold Oper.wpIn
  refine ⟨?_, ?_⟩
  · simp [Oper.about, ho]
  · rw [Oper.semAt_plain F _ _ (by rw [ho]; intro c hc'; cases hc')]
    unfold execOp
    simp only [ho, hx, Instr.loadAt, Instr.sureAddr, Sem.run_bind, Sem.run_pure, Result.andThen_ok, run_loadVar_row w B 67 67 cs (0, 0) _ hB Tryd.underlying67 rfl (by rw [hs]; exact infoSet)]
    exact hK _ _ h
theorem wpListIn_store_set {F : Fence} {n : Nat} {ops : Array Oper} {rest : List Oper} {o : Oper} {a : Act} {Q : Exit → Act → World → Prop} {w : World} (hw : Region.wanted o (yielded ops a.tmps) = true) (x y : Operand) (ho : o.op = .store 67 x y)
    (B : Nat) (hx : a.eval x = .pointer (some ⟨B, 0, none⟩)) (cs : Array Value) (hy : a.eval y = .agg cs) (hs : cs.size = 8) (h1 : cs.all (·.oneCell') = true) (old : Array Value) (hso : old.size = 8) (hB : w.heap[B]? = some (.cells old 67 (0, 0)))
    (h : wpListIn F n Tryd.prog ops Q rest (a.put o.dst undef) (w.setRow B cs)) : wpListIn F n Tryd.prog ops Q (o :: rest) a w := by
  refine wpListIn_step fun K hK => ?_
  rw [if_pos hw]
  unfold Oper.wpIn
  refine ⟨?_, ?_⟩
  · simp [Oper.about, ho]
  · rw [Oper.semAt_plain F _ _ (by rw [ho]; intro c hc'; cases hc')]
    unfold execOp
    simp only [ho, hx, hy, Instr.storeAt, Instr.sureAddr, Sem.run_bind, Sem.run_pure, Result.andThen_ok, run_storeVar_row w B 67 67 old cs hB (by rw [hs]; exact infoSet) (by rw [hs, hso]) h1]
    exact hK _ _ h
theorem grown_setRow (w : World) (g : Nat) (cs : Array Value) : w.grownBy (w.setRow g cs) (some g) :=
  ⟨rfl, rfl, rfl, by simp, fun k _ hk => setRow_other w g k cs (fun e => hk (congrArg some e))⟩
def zeroW : List Nat := List.replicate 8 0
theorem zeroW_ok : OkW zeroW := ⟨rfl, fun x hx => by have := (List.mem_replicate.1 hx).2; omega⟩
theorem zeroW_cells : setCells zeroW = #[.int .u64 0, .int .u64 0, .int .u64 0, .int .u64 0, .int .u64 0, .int .u64 0, .int .u64 0, .int .u64 0] := rfl
set_option maxHeartbeats 4000000 in
set_option maxRecDepth 100000 in
theorem closed_in (ps : List (List S71)) (bs : List Int) (A0 : Option Addr) (c0 : Nat) (A1 : Option Addr) (c1 : Nat) (m : Int) (ws : List Nat) (hw : OkW ws) (w : World) (hT : TabAt ps bs A0 c0 A1 c1 w) :
    CallsIn Fence.wide 6 Tryd.prog 65 #[tabArg ps bs A0 c0 A1 c1 m, setV ws] w fun e w' => e = .returned (setV (closeL (allParts ps bs) ws)) ∧ Below w.heap.size w w' := by
  have hu67 := Tryd.underlying67
  have hu80 := Tryd.underlying80
  have hu71 := Tryd.underlying71
  have HT := Aside0.mk hT
  have HW := Aside0.mk hw
  clear hT hw
  have cP : Aside0 (∀ W, _) := ⟨fun W => parts_any ps bs A0 c0 A1 c1 m W⟩
  refine callsIn_of_wp_marks Tryd.func65 rfl trivial ?_ rfl
  simp only [Tryd.ntmps65, List.size_toArray, List.length_cons, List.length_nil, Nat.reduceAdd, Nat.reduceSub, Array.replicate_succ, Array.replicate_zero, List.push_toArray, List.append_toArray, List.nil_append, List.cons_append]
  unfold tabArg at cP ⊢
  unfold setV
  gi_wp2_with (refine ⟨trivial, ?_⟩; gi_at_call 66; refine (callsIn_wide.2 (cP.out _)).mono ?_; rintro e w' ⟨rfl, rfl⟩)
  have b1 : ((w.alloc (.cells #[.slice A0 ps.length c0, .slice A1 bs.length c1, .int .i64 m] 80)).alloc (.cells (setCells ws) 67)).heap[w.heap.size + 1]? = some (.cells (setCells ws) 67 (0, 0)) := heap_alloc2_new _ _ _
  have b2 : (((w.alloc (.cells #[.slice A0 ps.length c0, .slice A1 bs.length c1, .int .i64 m] 80)).alloc (.cells (setCells ws) 67)).alloc (.cells (setCells zeroW) 67)).heap[w.heap.size + 1 + 1]? = some (.cells (setCells zeroW) 67 (0, 0)) := by
    have h := heap_alloc_new ((w.alloc (.cells #[.slice A0 ps.length c0, .slice A1 bs.length c1, .int .i64 m] 80)).alloc (.cells (setCells ws) 67)) (.cells (setCells zeroW) 67)
    simpa using h
  have b3 : ((((w.alloc (.cells #[.slice A0 ps.length c0, .slice A1 bs.length c1, .int .i64 m] 80)).alloc (.cells (setCells ws) 67)).alloc (.cells (setCells zeroW) 67)).alloc (.cells #[.slice A0 ps.length c0, .slice A1 bs.length c1, .int .i64 m] 80)).heap[w.heap.size + 1 + 1 + 1]? = some (tabBox ps bs A0 c0 A1 c1 m) := by
    have h := heap_alloc_new (((w.alloc (.cells #[.slice A0 ps.length c0, .slice A1 bs.length c1, .int .i64 m] 80)).alloc (.cells (setCells ws) 67)).alloc (.cells (setCells zeroW) 67)) (.cells #[.slice A0 ps.length c0, .slice A1 bs.length c1, .int .i64 m] 80)
    simpa using h
  have b1' := blk_alloc (blk_alloc b1 (.cells (setCells zeroW) 67)) (.cells #[.slice A0 ps.length c0, .slice A1 bs.length c1, .int .i64 m] 80)
  have b2' := blk_alloc b2 (.cells #[.slice A0 ps.length c0, .slice A1 bs.length c1, .int .i64 m] 80)
  have hB0 : Below w.heap.size w ((((w.alloc (.cells #[.slice A0 ps.length c0, .slice A1 bs.length c1, .int .i64 m] 80)).alloc (.cells (setCells ws) 67)).alloc (.cells (setCells zeroW) 67)).alloc (.cells #[.slice A0 ps.length c0, .slice A1 bs.length c1, .int .i64 m] 80)) := below_alloc (below_alloc (below_alloc (below_alloc (Below.refl _ _) _) _) _) _
  have hsz : ((((w.alloc (.cells #[.slice A0 ps.length c0, .slice A1 bs.length c1, .int .i64 m] 80)).alloc (.cells (setCells ws) 67)).alloc (.cells (setCells zeroW) 67)).alloc (.cells #[.slice A0 ps.length c0, .slice A1 bs.length c1, .int .i64 m] 80)).heap.size = w.heap.size + 4 := by simp
  rw [zeroW_cells] at b1' b2' b3 hB0 hsz
  obtain ⟨W0, hW0⟩ : ∃ W0, ((((w.alloc (.cells #[.slice A0 ps.length c0, .slice A1 bs.length c1, .int .i64 m] 80)).alloc (.cells (setCells ws) 67)).alloc (.cells #[.int .u64 0, .int .u64 0, .int .u64 0, .int .u64 0, .int .u64 0, .int .u64 0, .int .u64 0, .int .u64 0] 67)).alloc (.cells #[.slice A0 ps.length c0, .slice A1 bs.length c1, .int .i64 m] 80)) = W0 := ⟨_, rfl⟩
  rw [hW0] at b1' b2' b3 hB0 hsz ⊢
  clear hW0 b1 b2 hu67
  rw [← zeroW_cells] at b2'
  refine wpIn_rangeFunc_ownH (α := Int × S71) rfl (by omega) (gf := 76) (lb := #[.pointer (some ⟨w.heap.size + 1 + 1 + 1, 0, none⟩)]) rfl trivial (enters_of Tryd.func76 (by kernel_rfl) rfl)
    (parts_stops 5 (by omega) ps bs A0 c0 A1 c1 m (w.heap.size + 1 + 1 + 1) w HT.out W0 hB0 b3) (fun h k => ⟨h.1.trans k.1, k.2.trans h.2⟩) (fun W l o o' hl hh hc hwk => ⟨(Below.refl _ W).grown (grownBy_putObj' W l o') (by have := (Array.getElem?_eq_some_iff.1 hh).1; omega) (fun r e => by cases e; omega), World.putObj_heap_other (by omega)⟩) (Below.refl _ _) (fun _ => rfl)
    (fun pre W => (W.heap[w.heap.size + 1]? = some (.cells (setCells (closeL pre ws)) 67 (0, 0)) ∧ W.heap[w.heap.size + 1 + 1]? = some (.cells (setCells zeroW) 67 (0, 0))) ∧ (W0.heap.size ≤ W.heap.size ∧ Below w.heap.size w W))
    (fun _ _ _ => False)
    (OwnFrom.and (OwnFrom.and (ownFrom_block (by omega) _) (ownFrom_block (by omega) (fun _ => _))) (OwnFrom.and (fun s W W' row hs hg hr => Nat.le_trans hs hg.size) (ownFrom_below (Nat.le_refl _) (by omega))))
    (fun _ _ _ _ _ hs _ _ => hs)
    ⟨⟨b1', b2'⟩, Nat.le_refl _, hB0⟩
    (fun x a' W => ∃ Bx, (w.heap.size + 4 ≤ Bx ∧ W.heap[Bx]? = some (.cells #[.int .i64 x.2.f0, .string x.2.f1] 71 (0, 0))) ∧ a' = { tmps := #[.agg #[.slice A0 ps.length c0, .slice A1 bs.length c1, .int .i64 m], .agg (setCells ws), .pointer (some ⟨w.heap.size, 0, none⟩), .pointer (some ⟨w.heap.size + 1, 0, none⟩), .pointer (some ⟨w.heap.size + 1 + 1, 0, none⟩), .int .i64 x.1, .pointer (some ⟨Bx, 0, none⟩), .agg #[.slice A0 ps.length c0, .slice A1 bs.length c1, .int .i64 m], .func (.func 76) #[] #[.pointer (some ⟨w.heap.size + 1 + 1 + 1, 0, none⟩)], .int .i64 x.1, .agg #[.int .i64 x.2.f0, .string x.2.f1], undef, undef, undef, undef, undef, undef, undef, undef, undef, undef, undef, undef], defers := [] })
    (fun x a' _ X Y row hs hg hr => by
      obtain ⟨Bx, ⟨h1, h2⟩, h3⟩ := hs
      refine ⟨Bx, ⟨h1, (hg.block Bx (Array.getElem?_eq_some_iff.1 h2).1 (fun e => ?_)).trans h2⟩, h3⟩
      obtain ⟨o, ho, hcell⟩ := (hr Bx e.symm).2
      rw [h2] at ho
      cases ho
      cases hcell)
    ?assign ?body ?done ?stop
  case assign =>
    rintro l pre x W K ⟨⟨bS, bZ⟩, hSz, hB⟩ hK
    have hK := Aside0.mk hK
    unfold partV
    gi_wp2
    refine hK.out _ _ ((KeepsOthers.alloc _ _).from _) ⟨(Below.refl _ W).alloc (by omega) _, Below.heap_alloc W _ _ (by omega)⟩ ⟨⟨blk_alloc bS _, blk_alloc bZ _⟩, by simp; omega, below_alloc hB _⟩ ⟨W.heap.size, ⟨by omega, heap_alloc_new _ _⟩, rfl⟩
  case body =>
    rintro l pre x a' W hl ⟨r, hr⟩ ⟨⟨bS, bZ⟩, hSz, hB⟩ ⟨Bx, ⟨hBx, bX⟩, rfl⟩ hlt
    have hok := closeL_ok pre HW.out
    have HS := Aside0.mk (closeL_snoc pre x ws)
    generalize closeL pre ws = vs at *
    obtain ⟨n, k⟩ := x
    have c0 : W.cell? ⟨Bx, 0, none⟩ = some (.int .i64 k.f0) := (blk_cell bX 0).trans rfl
    have hz := setCells_size hok
    have cH := Aside0.mk (fun W => has_any vs hok n W)
    have cPut := Aside0.mk (fun W h => put_any vs hok (wrap64 (n + 1)) (w.heap.size + 1) W h)
    have BS := Aside0.mk bS
    have BZ := Aside0.mk bZ
    have BX := Aside0.mk bX
    have HB := Aside0.mk hB
    clear bS bZ bX hB hr b1' b2' b3 hB0
    unfold closeOne at HS
    unfold setV at cH
    by_cases hk : k.f0 = 2
    · have hk2 : (k.f0 == 2) = true := by simpa using hk
      rw [hk2] at HS
      cases hq : inW vs n with
      | true =>
        rw [hq] at HS cH
        generalize hcs : setCells vs = cs at *
        have HCS := Aside0.mk hcs
        clear hcs
        gi_wp2_with (first | (refine wpListIn_load_set (by rfl) (.tmp 3) rfl (w.heap.size + 1) rfl cs hz BS.out ?_) | (refine ⟨trivial, ?_⟩; gi_at_call 61; refine (CallsIn.inRound l (callsIn_wide.2 (cH.out _))).mono ?_; rintro e w1 ⟨rfl, hb1⟩) | (refine ⟨trivial, ?_⟩; gi_at_call 64; refine (CallsIn.inRound l (callsIn_wide.2 (cPut.out _ ?hh))).mono ?_; (case hh => exact blk_below5 hb1 BS.out); rintro e w2 ⟨rfl, bS2, hg2⟩))
        have hb2 : Below w.heap.size W w2 := ((hb1.mono (by omega) : Below w.heap.size W w1)).grown hg2 (by have := hb1.size; omega) (fun r e => by cases e; omega)
        refine ⟨(KeepsFrom.of_grownBy (grown_of_below hb1 none) (fun j e => by cases e)).trans (KeepsFrom.of_grownBy hg2 (fun j e => by cases e; omega)), ⟨hb2, ?_⟩, ⟨⟨?_, ?_⟩, Nat.le_trans hSz hb2.size, HB.out.trans hb2⟩⟩
        · exact (hg2.block _ (by have := hb1.size; omega) (by intro e; injection e with e; omega)).trans (hb1.block _ (by omega))
        · rw [HS.out, if_pos (by simp)]; exact bS2
        · exact (hg2.block _ (by have := hb1.size; omega) (by intro e; injection e with e; omega)).trans (blk_below5 hb1 BZ.out)
      | false =>
        rw [hq] at HS cH
        generalize hcs : setCells vs = cs at *
        have HCS := Aside0.mk hcs
        clear hcs
        gi_wp2_with (first | (refine wpListIn_load_set (by rfl) (.tmp 3) rfl (w.heap.size + 1) rfl cs hz BS.out ?_) | (refine ⟨trivial, ?_⟩; gi_at_call 61; refine (CallsIn.inRound l (callsIn_wide.2 (cH.out _))).mono ?_; rintro e w1 ⟨rfl, hb1⟩))
        have hb2 : Below w.heap.size W w1 := hb1.mono (by omega)
        refine ⟨KeepsFrom.of_grownBy (grown_of_below hb1 none) (fun j e => by cases e), ⟨hb2, hb1.block _ (by omega)⟩, ⟨⟨?_, blk_below5 hb1 BZ.out⟩, Nat.le_trans hSz hb2.size, HB.out.trans hb2⟩⟩
        rw [HS.out, if_neg (by simp), HCS.out]; exact blk_below5 hb1 BS.out
    · have hk2 : (k.f0 == 2) = false := by simpa using hk
      rw [hk2] at HS
      gi_wp2
      refine ⟨trivial, ?_⟩
      gi_wp2
      refine ⟨KeepsFrom.refl _ _, ⟨Below.refl _ _, rfl⟩, ⟨⟨?_, BZ.out⟩, hSz, HB.out⟩⟩
      rw [HS.out, if_neg (by simp)]; exact BS.out
  case done =>
    rintro D zs W hD rfl ⟨⟨bS, bZ⟩, hSz, hB⟩ hK
    have hok := closeL_ok (allParts ps bs) HW.out
    have hz := setCells_size hok
    have h1 := set_one (closeL (allParts ps bs) ws)
    have hz0 := setCells_size zeroW_ok
    have BS := Aside0.mk bS
    have BZ := Aside0.mk bZ
    have HB := Aside0.mk hB
    have HK := Aside0.mk hK
    clear bS bZ hB hK
    generalize hcs : setCells (closeL (allParts ps bs) ws) = cs at *
    have HCS := Aside0.mk hcs
    clear hcs
    generalize setCells zeroW = zs at *
    gi_wp2_with (first | (refine wpListIn_load_set (by rfl) (.tmp 3) rfl (w.heap.size + 1) rfl cs hz BS.out ?_) | (refine wpListIn_store_set (by rfl) (.tmp 4) (.tmp 22) rfl (w.heap.size + 1 + 1) rfl cs rfl hz h1 zs hz0 BZ.out ?_))
    have hK2 : (W.setRow (w.heap.size + 1 + 1) cs).heap[D]? = some (.deferred (some [])) := (setRow_other _ _ _ _ (by omega)).trans HK.out
    have hR2 : ((W.setRow (w.heap.size + 1 + 1) cs).putObj D (.deferred none)).heap[w.heap.size + 1 + 1]? = some (.cells cs 67 (0, 0)) := (World.putObj_heap_other (by omega)).trans (setRow_heap _ _ _ _ _ _ BZ.out)
    refine ⟨by simp, .inl ⟨_, _, rfl, run_takeDeferred hK2, ?_⟩⟩
    refine ⟨.agg cs, results_cell_row (P := Tryd.prog) rfl _ _ _ _ _ _ _ rfl hR2 Tryd.underlying67 rfl (by rw [hz]; exact infoSet), by rw [HCS.out], ?_⟩
    exact ((HB.out.grown (grown_setRow _ _ _) HB.out.size (fun r e => by cases e; omega))).grown (grownBy_putObj' _ _ _) (by have := HB.out.size; simp; omega) (fun r e => by cases e; omega)
  case stop =>
    rintro D c pre W _ _ h _
    exact h.elim
theorem closed_any (ps : List (List S71)) (bs : List Int) (A0 : Option Addr) (c0 : Nat) (A1 : Option Addr) (c1 : Nat) (m : Int) (ws : List Nat) (hw : OkW ws) (w : World) (hT : TabAt ps bs A0 c0 A1 c1 w) :
    Calls Tryd.prog 65 #[tabArg ps bs A0 c0 A1 c1 m, setV ws] w fun e w' => e = .returned (setV (closeL (allParts ps bs) ws)) ∧ Below w.heap.size w w' := callsIn_wide.1 (closed_in ps bs A0 c0 A1 c1 m ws hw w hT)
end Go.Proofs.YtpbkdeelkpjccaaDoor.G

namespace Go.Proofs.YtpbkdeelkpjccaaDoor.G
open Go.RowKit Go.Proofs.YtpbkdeelkpjccaaDoorW.PrintWords
set_option linter.unusedVariables false
set_option linter.unusedSimpArgs false
theorem wpList_load_set {ops : Array Oper} {rest : List Oper} {o : Oper} {a : Act} {Q : Exit → Act → World → Prop} {w : World} (hg : o.guard = none) (x : Operand) (ho : o.op = .load 67 x)
    (B : Nat) (hx : a.eval x = .pointer (some ⟨B, 0, none⟩)) (cs : Array Value) (hs : cs.size = 8) (hB : w.heap[B]? = some (.cells cs 67 (0, 0)))
    (h : wpList Tryd.prog ops Q rest (a.put o.dst (.agg cs)) w) : wpList Tryd.prog ops Q (o :: rest) a w :=
  wpList_load_row hg 67 x ho B hx 67 cs (0, 0) _ hB Tryd.underlying67 rfl (by rw [hs]; exact infoSet) h
theorem wpList_store_set {ops : Array Oper} {rest : List Oper} {o : Oper} {a : Act} {Q : Exit → Act → World → Prop} {w : World} (hg : o.guard = none) (x y : Operand) (ho : o.op = .store 67 x y)
    (B : Nat) (hx : a.eval x = .pointer (some ⟨B, 0, none⟩)) (cs : Array Value) (hy : a.eval y = .agg cs) (hs : cs.size = 8) (h1 : cs.all (·.oneCell') = true) (old : Array Value) (hso : old.size = 8) (hB : w.heap[B]? = some (.cells old 67 (0, 0)))
    (h : wpList Tryd.prog ops Q rest (a.put o.dst undef) (w.setRow B cs)) : wpList Tryd.prog ops Q (o :: rest) a w := by
  refine wpList_plain hg fun K hK => ?_
  unfold Oper.wp execOp
  simp only [ho, hx, hy, Instr.storeAt, Instr.sureAddr, Sem.run_bind, Sem.run_pure, Result.andThen_ok, run_storeVar_row w B 67 67 old cs hB (by rw [hs]; exact infoSet) (by rw [hs, hso]) h1]
  exact hK _ _ h
def startL (bs : List Int) : List Nat := bs.foldl putW zeroW
theorem startL_take (bs : List Int) (i : Nat) (h : i < bs.length) : startL (bs.take (i + 1)) = putW (startL (bs.take i)) (bs.getD i 0) := by
  unfold startL
  rw [List.take_succ_eq_append_getElem h, List.foldl_append, getD_lt _ _ h]; rfl
theorem foldl_putW_ok (bs : List Int) : ∀ {ws : List Nat}, OkW ws → OkW (bs.foldl putW ws) := by
  induction bs with
  | nil => exact fun h => h
  | cons b bs ih => exact fun h => ih (putW_ok h b)
theorem startL_ok (bs : List Int) : OkW (startL bs) := foldl_putW_ok bs zeroW_ok
def nfaStart (pl : List (Int × S71)) (bs : List Int) : List Nat := closeL pl (startL bs)
set_option maxHeartbeats 4000000 in
set_option maxRecDepth 100000 in
theorem start_any (ps : List (List S71)) (bs : List Int) (A0 : Option Addr) (c0 : Nat) (A1 : Option Addr) (c1 : Nat) (m : Int) (w : World) (hT : TabAt ps bs A0 c0 A1 c1 w) :
    Calls Tryd.prog 42 #[tabArg ps bs A0 c0 A1 c1 m] w fun e w' => e = .returned (setV (nfaStart (allParts ps bs) bs)) ∧ Below w.heap.size w w' := by
  have hu80 := Tryd.underlying80
  have hmax := hT.h0.2.1
  have hlen := hT.len
  have HT := Aside0.mk hT
  clear hT
  have cB := Aside0.mk (fun (i : Nat) W h hi => begin_calls ps bs A0 c0 A1 c1 m i W h hi)
  unfold tabArg at cB ⊢
  have HL := Aside0.mk hlen
  clear hlen
  have hu67 := Tryd.underlying67
  go_enter Tryd.func42, Tryd.ntmps42
  go_wp2
  obtain ⟨W1, hW1⟩ : ∃ W1, w.alloc (.cells #[.slice A0 ps.length c0, .slice A1 bs.length c1, .int .i64 m] 80) = W1 := ⟨_, rfl⟩
  obtain ⟨W0, hW0⟩ : ∃ W0, W1.alloc (.cells (setCells zeroW) 67) = W0 := ⟨_, rfl⟩
  have s1 : W1.heap.size = w.heap.size + 1 := by rw [← hW1]; simp
  have hsz : W0.heap.size = w.heap.size + 2 := by rw [← hW0]; simp [s1]
  have b0 : W0.heap[w.heap.size]? = some (tabBox ps bs A0 c0 A1 c1 m) := by rw [← hW0, ← hW1]; exact blk_alloc (heap_alloc_new _ _) _
  have b1 : W0.heap[w.heap.size + 1]? = some (.cells (setCells zeroW) 67 (0, 0)) := by rw [← s1, ← hW0]; exact heap_alloc_new _ _
  have hB0 : Below w.heap.size w W0 := by rw [← hW0, ← hW1]; exact below_alloc (below_alloc (Below.refl _ _) _) _
  rw [zeroW_cells] at hW0
  rw [hW1, hW0]
  clear hW0 hW1 s1 hu67
  have HB0 := Aside0.mk hB0
  have H0 := Aside0.mk b0
  have H1 := Aside0.mk b1
  clear hB0 b0 b1
  go_loopg [7] ps.length (fun gg s7 wr => ∃ i : Nat, i ≤ ps.length ∧ ps.length - i ≤ gg ∧ s7 = .int .i64 i ∧ Aside0 (Below w.heap.size w wr) ∧ Aside0 (W0.heap.size ≤ wr.heap.size) ∧ Aside0 (wr.heap[w.heap.size]? = some (tabBox ps bs A0 c0 A1 c1 m)) ∧ Aside0 (wr.heap[w.heap.size + 1]? = some (.cells (setCells (startL (bs.take i))) 67 (0, 0))))
  case atStart => exact ⟨0, Nat.zero_le _, by omega, rfl, ⟨HB0.out⟩, ⟨Nat.le_refl _⟩, ⟨H0.out⟩, ⟨by simpa [startL] using H1.out⟩⟩
  case round =>
    obtain ⟨i, hi, hg, rfl, BW, SW, BT, BO⟩ := hrel
    have e0 : wr.cell? ⟨w.heap.size, 0, none⟩ = some (.slice A0 ps.length c0) := (blk_cell BT.out 0).trans rfl
    have e1 : wr.cell? ⟨w.heap.size, 1, none⟩ = some (.slice A1 bs.length c1) := (blk_cell BT.out 1).trans rfl
    have e2 : wr.cell? ⟨w.heap.size, 2, none⟩ = some (.int .i64 m) := (blk_cell BT.out 2).trans rfl
    by_cases hil : i < ps.length
    · have hiz : decide ((i : Int) < (ps.length : Int)) = true := decide_eq_true (by omega)
      have HS := Aside0.mk (startL_take bs i (by have := HL.out; omega))
      have hok := startL_ok (bs.take i)
      generalize startL (bs.take i) = vs at *
      have cPut := Aside0.mk (fun i W h => put_any vs hok i (w.heap.size + 1) W h)
      have cBi := Aside0.mk (fun W h => cB.out i W h hil)
      generalize bs.getD i 0 = b at HS cBi
      go_wp2_with (first | (go_at_call 62; refine (cBi.out _ ?hb).mono ?_; (case hb => exact HT.out.below BW.out); rintro e w1 ⟨rfl, hb1⟩; have HB1 := Aside0.mk hb1; clear hb1) | (go_at_call 64; refine (cPut.out b _ ?hh).mono ?_; (case hh => exact blk_below5 HB1.out BO.out); rintro e w2 ⟨rfl, bO2, hg2⟩; have HG2 := Aside0.mk hg2; have BO2 := Aside0.mk bO2; clear hg2 bO2))
      have hz1 := HB1.out.size
      have hsw := SW.out
      go_roundg (ps.length - (i + 1))
      case measure => omega
      case rel =>
        refine ⟨i + 1, by omega, by omega, by go_num, ⟨?_⟩, ⟨?_⟩, ⟨?_⟩, ⟨?_⟩⟩
        · exact (below_then BW.out BW.out.size HB1.out).grown HG2.out (by omega) (fun r e => by cases e; omega)
        · have := HG2.out.size; omega
        · exact (HG2.out.block _ (by omega) (by intro e; injection e with e; omega)).trans (blk_below5 HB1.out BT.out)
        · rw [HS.out]; exact BO2.out
    · have hiz : decide ((i : Int) < (ps.length : Int)) = false := decide_eq_false (by omega)
      have HE := Aside0.mk (show bs.take i = bs by rw [List.take_of_length_le (by have := HL.out; omega)])
      rw [HE.out] at BO
      have hok := startL_ok bs
      have hoz := closeL_ok (allParts ps bs) hok
      have cC := Aside0.mk (fun W h => closed_any ps bs A0 c0 A1 c1 m _ hok W h)
      have hz := setCells_size hok
      have hz2 := setCells_size hoz
      have h1 := set_one (closeL (allParts ps bs) (startL bs))
      unfold tabArg setV at cC
      generalize hcs : setCells (startL bs) = cs at *
      generalize hvs : setCells (closeL (allParts ps bs) (startL bs)) = vs at *
      have HVS := Aside0.mk hvs
      clear hcs hvs
      go_wp2_with (first | (refine wpList_load_set rfl (.tmp 2) rfl (w.heap.size + 1) rfl cs hz BO.out ?_) | (go_at_call 65; refine (cC.out _ ?hh).mono ?_; (case hh => exact HT.out.below BW.out); rintro e w1 ⟨rfl, hb1⟩; have HB1 := Aside0.mk hb1; clear hb1; have BO1 := Aside0.mk (blk_below5 HB1.out BO.out)) | (refine wpList_store_set rfl (.tmp 2) (.tmp 17) rfl (w.heap.size + 1) rfl vs rfl hz2 h1 cs hz BO1.out ?_))
      refine bodyPost_ret (v := .agg vs) (results_cell_row (P := Tryd.prog) rfl _ _ _ _ _ _ _ rfl (setRow_heap _ _ _ _ _ _ BO1.out) Tryd.underlying67 rfl (by rw [hz2]; exact infoSet)) rfl ?_
      have hb2 := below_then BW.out BW.out.size HB1.out
      exact ⟨by unfold nfaStart setV; rw [HVS.out], hb2.grown (grown_setRow _ _ _) hb2.size (fun r e => by cases e; omega)⟩
end Go.Proofs.YtpbkdeelkpjccaaDoor.G

namespace Go.Proofs.YtpbkdeelkpjccaaDoor.G
open Go.RowKit Go.Proofs.YtpbkdeelkpjccaaDoorW.PrintWords
set_option linter.unusedVariables false
set_option linter.unusedSimpArgs false
def unionTo (k : Nat) (a b : List Nat) : List Nat := (List.range 8).map fun j => if j < k then a.getD j 0 ||| b.getD j 0 else a.getD j 0
def unionW (a b : List Nat) : List Nat := (List.range 8).map fun j => a.getD j 0 ||| b.getD j 0
theorem range_getD {a : List Nat} (h : a.length = 8) : (List.range 8).map (fun j => a.getD j 0) = a := by
  apply List.ext_getElem
  · simp [h]
  · intro i h1 h2
    simp [List.getD_eq_getElem?_getD, List.getElem?_eq_getElem h2]
theorem unionTo_zero {a b : List Nat} (h : OkW a) : unionTo 0 a b = a := by
  unfold unionTo
  rw [show (fun j => if j < 0 then a.getD j 0 ||| b.getD j 0 else a.getD j 0) = (fun j => a.getD j 0) from by funext j; rw [if_neg (Nat.not_lt_zero _)]]
  exact range_getD h.len
theorem unionTo_all (a b : List Nat) : unionTo 8 a b = unionW a b := by
  unfold unionTo unionW
  apply List.map_congr_left
  intro j hj
  rw [if_pos (List.mem_range.1 hj)]
theorem unionTo_len (k : Nat) (a b : List Nat) : (unionTo k a b).length = 8 := by simp [unionTo]
theorem unionTo_ok (k : Nat) {a b : List Nat} (ha : OkW a) (hb : OkW b) : OkW (unionTo k a b) := by
  refine ⟨unionTo_len k a b, fun x hx => ?_⟩
  obtain ⟨j, _, rfl⟩ := List.mem_map.1 hx
  split
  · exact Nat.or_lt_two_pow (n := 64) (ha.getD j) (hb.getD j)
  · exact ha.getD j
theorem unionW_ok {a b : List Nat} (ha : OkW a) (hb : OkW b) : OkW (unionW a b) := by rw [← unionTo_all]; exact unionTo_ok 8 ha hb
theorem unionTo_get (k j : Nat) (a b : List Nat) (hj : j < 8) : (unionTo k a b).getD j 0 = if j < k then a.getD j 0 ||| b.getD j 0 else a.getD j 0 := by
  rw [getD_lt _ _ (by rw [unionTo_len]; exact hj)]
  simp [unionTo]
theorem unionTo_succ (k : Nat) (a b : List Nat) (hk : k < 8) : unionTo (k + 1) a b = (unionTo k a b).set k (a.getD k 0 ||| b.getD k 0) := by
  apply List.ext_getElem
  · simp [unionTo_len]
  · intro i h1 h2
    rw [List.getElem_set]
    simp only [unionTo, List.getElem_map, List.getElem_range]
    by_cases e : k = i
    · subst e; rw [if_pos rfl, if_pos (by omega)]
    · rw [if_neg e]
      by_cases h : i < k
      · rw [if_pos (by omega), if_pos h]
      · rw [if_neg (by omega), if_neg h]
set_option maxHeartbeats 4000000 in
set_option maxRecDepth 100000 in
theorem union_any (xs bs : List Nat) (ha : OkW xs) (hb : OkW bs) (w : World) :
    Calls Tryd.prog 44 #[setV xs, setV bs] w fun e w' => e = .returned (setV (unionW xs bs)) ∧ Below w.heap.size w w' := by
  have HA := Aside0.mk ha
  have HBB := Aside0.mk hb
  have hza := setCells_size ha
  have hzb := setCells_size hb
  clear ha hb
  unfold setV
  have hu67 := Tryd.underlying67
  go_enter Tryd.func44, Tryd.ntmps44
  go_wp2
  obtain ⟨W1, hW1⟩ : ∃ W1, w.alloc (.cells (setCells xs) 67) = W1 := ⟨_, rfl⟩
  obtain ⟨W2, hW2⟩ : ∃ W2, W1.alloc (.cells (setCells bs) 67) = W2 := ⟨_, rfl⟩
  obtain ⟨W0, hW0⟩ : ∃ W0, W2.alloc (.cells (setCells zeroW) 67) = W0 := ⟨_, rfl⟩
  have s1 : W1.heap.size = w.heap.size + 1 := by rw [← hW1]; simp
  have s2 : W2.heap.size = w.heap.size + 1 + 1 := by rw [← hW2]; simp [s1]
  have hsz : W0.heap.size = w.heap.size + 3 := by rw [← hW0]; simp [s2]
  have H0 : Aside0 (W0.heap[w.heap.size]? = some (.cells (setCells xs) 67 (0, 0))) := ⟨by rw [← hW0, ← hW2, ← hW1]; exact blk_alloc (blk_alloc (heap_alloc_new _ _) _) _⟩
  have H1 : Aside0 (W0.heap[w.heap.size + 1]? = some (.cells (setCells bs) 67 (0, 0))) := ⟨by rw [← s1, ← hW0, ← hW2]; exact blk_alloc (heap_alloc_new _ _) _⟩
  have H2 : Aside0 (W0.heap[w.heap.size + 1 + 1]? = some (.cells (setCells zeroW) 67 (0, 0))) := ⟨by rw [← s2, ← hW0]; exact heap_alloc_new _ _⟩
  have HB0 : Aside0 (Below w.heap.size w W0) := ⟨by rw [← hW0, ← hW2, ← hW1]; exact below_alloc (below_alloc (below_alloc (Below.refl _ _) _) _) _⟩
  rw [zeroW_cells] at hW0
  rw [hW1, hW2, hW0]
  clear hW0 hW1 hW2 s1 s2
  go_loopg [6] 8 (fun gg s6 wr => ∃ i : Nat, i ≤ 8 ∧ 8 - i ≤ gg ∧ s6 = .int .i64 i ∧ Aside0 (Below w.heap.size w wr) ∧ Aside0 (W0.heap.size ≤ wr.heap.size) ∧ Aside0 (wr.heap[w.heap.size]? = some (.cells (setCells (unionTo i xs bs)) 67 (0, 0))) ∧ Aside0 (wr.heap[w.heap.size + 1]? = some (.cells (setCells bs) 67 (0, 0))) ∧ Aside0 (wr.heap[w.heap.size + 1 + 1]? = some (.cells (setCells zeroW) 67 (0, 0))))
  case atStart => exact ⟨0, Nat.zero_le _, by omega, rfl, ⟨HB0.out⟩, ⟨Nat.le_refl _⟩, ⟨by rw [unionTo_zero HA.out]; exact H0.out⟩, ⟨H1.out⟩, ⟨H2.out⟩⟩
  case round =>
    obtain ⟨i, hi, hg, rfl, BW, SW, BA, BB, BZ⟩ := hrel
    by_cases hil : i < 8
    · have hiz : decide ((i : Int) < 8) = true := decide_eq_true (by omega)
      have HS := Aside0.mk (unionTo_succ i xs bs hil)
      have g0 : wr.cell? ⟨w.heap.size, i, none⟩ = some (.int .u64 (xs.getD i 0 : Nat)) := (blk_cell BA.out _).trans ((setCells_get (by rw [unionTo_len]; exact hil)).trans (by rw [unionTo_get _ _ _ _ hil, if_neg (by omega)]; rfl))
      have g1 : wr.cell? ⟨w.heap.size + 1, i, none⟩ = some (.int .u64 (bs.getD i 0 : Nat)) := (blk_cell BB.out _).trans (setCells_get (by rw [HBB.out.len]; exact hil))
      have f0 : wr.frozen? ⟨w.heap.size, i, none⟩ = false := blk_frozen BA.out _
      have hlt1 := HA.out.getD i
      have hlt2 := HBB.out.getD i
      have HO := Aside0.mk (bits_or_u64_nat (xs.getD i 0) (bs.getD i 0) hlt1 hlt2)
      generalize xs.getD i 0 = x at *
      generalize bs.getD i 0 = y at *
      go_wp2
      go_region
      all_goals go_wp2
      go_roundg (8 - (i + 1))
      case measure => omega
      case rel =>
        refine ⟨i + 1, by omega, by omega, by go_num, ⟨below_drew (BW.out.setCell (p := ⟨w.heap.size, i, none⟩) (Nat.le_refl _) _)⟩, ⟨by have := SW.out; simpa using this⟩, ⟨?_⟩, ⟨blk_far BB.out (by show w.heap.size + 1 ≠ w.heap.size; omega) _⟩, ⟨blk_far BZ.out (by show w.heap.size + 1 + 1 ≠ w.heap.size; omega) _⟩⟩
        have h := blk_set BA.out i (wordV (x ||| y))
        rw [setCells_set, ← HS.out] at h
        rw [HO.out]
        exact h
    · have hiz : decide ((i : Int) < 8) = false := decide_eq_false (by omega)
      have h8 : i = 8 := by omega
      subst h8
      rw [unionTo_all] at BA
      have hz := setCells_size (unionW_ok HA.out HBB.out)
      have h1 := set_one (unionW xs bs)
      have hz0 := setCells_size zeroW_ok
      generalize hcs : setCells (unionW xs bs) = cs at *
      generalize setCells zeroW = zs at *
      have HCS := Aside0.mk hcs
      clear hcs hu67
      go_wp2_with (first | (refine wpList_load_set rfl (.tmp 2) rfl w.heap.size rfl cs hz BA.out ?_) | (refine wpList_store_set rfl (.tmp 4) (.tmp 18) rfl (w.heap.size + 1 + 1) rfl cs rfl hz h1 zs hz0 BZ.out ?_))
      refine bodyPost_ret (v := .agg cs) (results_cell_row (P := Tryd.prog) rfl _ _ _ _ _ _ _ rfl (setRow_heap _ _ _ _ _ _ BZ.out) Tryd.underlying67 rfl (by rw [hz]; exact infoSet)) rfl ?_
      exact ⟨by rw [HCS.out], BW.out.grown (grown_setRow _ _ _) BW.out.size (fun r e => by cases e; omega)⟩
end Go.Proofs.YtpbkdeelkpjccaaDoor.G

namespace Go.Proofs.YtpbkdeelkpjccaaDoor.G
open Go.RowKit Go.Proofs.YtpbkdeelkpjccaaDoorW.PrintWords
set_option linter.unusedVariables false
set_option linter.unusedSimpArgs false
attribute [local go_sem] Oper.semAt_some
def stepOne (ws : List Nat) (st : ByteArray) (out : List Nat) (x : Int × S71) : List Nat :=
  if inW ws x.1 then (if x.2.f0 == 2 then putW out x.1 else if x.2.f0 == 1 || (x.2.f1.data.toList == st.data.toList) then putW out (wrap64 (x.1 + 1)) else out) else out
def stepL (pl : List (Int × S71)) (ws : List Nat) (st : ByteArray) : List Nat := pl.foldl (stepOne ws st) zeroW
theorem stepL_snoc (pl : List (Int × S71)) (x : Int × S71) (ws : List Nat) (st : ByteArray) : stepL (pl ++ [x]) ws st = stepOne ws st (stepL pl ws st) x := by simp [stepL]
theorem stepOne_ok {out : List Nat} (h : OkW out) (ws : List Nat) (st : ByteArray) (x : Int × S71) : OkW (stepOne ws st out x) := by
  unfold stepOne
  split
  · split
    · exact putW_ok h _
    · split
      · exact putW_ok h _
      · exact h
  · exact h
theorem stepF_ok (ws : List Nat) (st : ByteArray) (pl : List (Int × S71)) : ∀ {out : List Nat}, OkW out → OkW (pl.foldl (stepOne ws st) out) := by
  induction pl with
  | nil => exact fun h => h
  | cons x pl ih => exact fun h => ih (stepOne_ok h ws st x)
theorem stepL_ok (pl : List (Int × S71)) (ws : List Nat) (st : ByteArray) : OkW (stepL pl ws st) := stepF_ok ws st pl zeroW_ok
def nfaStep (pl : List (Int × S71)) (ws : List Nat) (st : ByteArray) : List Nat := closeL pl (stepL pl ws st)
set_option maxHeartbeats 4000000 in
set_option maxRecDepth 100000 in
theorem step_in (ps : List (List S71)) (bs : List Int) (A0 : Option Addr) (c0 : Nat) (A1 : Option Addr) (c1 : Nat) (m : Int) (ws : List Nat) (hw : OkW ws) (st : ByteArray) (w : World) (hT : TabAt ps bs A0 c0 A1 c1 w) :
    CallsIn Fence.wide 6 Tryd.prog 45 #[tabArg ps bs A0 c0 A1 c1 m, setV ws, .string st] w fun e w' => e = .returned (setV (nfaStep (allParts ps bs) ws st)) ∧ Below w.heap.size w w' := by
  have hu67 := Tryd.underlying67
  have hu80 := Tryd.underlying80
  have hu71 := Tryd.underlying71
  have HT := Aside0.mk hT
  have HW := Aside0.mk hw
  clear hT hw
  have cP : Aside0 (∀ W, _) := ⟨fun W => parts_any ps bs A0 c0 A1 c1 m W⟩
  refine callsIn_of_wp_marks Tryd.func45 rfl trivial ?_ rfl
  simp only [Tryd.ntmps45, List.size_toArray, List.length_cons, List.length_nil, Nat.reduceAdd, Nat.reduceSub, Array.replicate_succ, Array.replicate_zero, List.push_toArray, List.append_toArray, List.nil_append, List.cons_append]
  unfold tabArg at cP ⊢
  unfold setV
  gi_wp2_with (refine ⟨trivial, ?_⟩; gi_at_call 66; refine (callsIn_wide.2 (cP.out _)).mono ?_; rintro e w' ⟨rfl, rfl⟩)
  obtain ⟨W1, hW1⟩ : ∃ W1, w.alloc (.cells #[.slice A0 ps.length c0, .slice A1 bs.length c1, .int .i64 m] 80) = W1 := ⟨_, rfl⟩
  obtain ⟨W2, hW2⟩ : ∃ W2, W1.alloc (.cells (setCells ws) 67) = W2 := ⟨_, rfl⟩
  obtain ⟨W3, hW3⟩ : ∃ W3, W2.alloc (.cells #[.string st] 9) = W3 := ⟨_, rfl⟩
  obtain ⟨W4, hW4⟩ : ∃ W4, W3.alloc (.cells (setCells zeroW) 67) = W4 := ⟨_, rfl⟩
  obtain ⟨W0, hW0⟩ : ∃ W0, W4.alloc (.cells #[.slice A0 ps.length c0, .slice A1 bs.length c1, .int .i64 m] 80) = W0 := ⟨_, rfl⟩
  have s1 : W1.heap.size = w.heap.size + 1 := by rw [← hW1]; simp
  have s2 : W2.heap.size = w.heap.size + 1 + 1 := by rw [← hW2]; simp [s1]
  have s3 : W3.heap.size = w.heap.size + 1 + 1 + 1 := by rw [← hW3]; simp [s2]
  have s4 : W4.heap.size = w.heap.size + 1 + 1 + 1 + 1 := by rw [← hW4]; simp [s3]
  have hsz : W0.heap.size = w.heap.size + 5 := by rw [← hW0]; simp [s4]
  have b0 : W0.heap[w.heap.size]? = some (tabBox ps bs A0 c0 A1 c1 m) := by rw [← hW0, ← hW4, ← hW3, ← hW2, ← hW1]; exact blk_alloc (blk_alloc (blk_alloc (blk_alloc (heap_alloc_new _ _) _) _) _) _
  have b1 : W0.heap[w.heap.size + 1]? = some (.cells (setCells ws) 67 (0, 0)) := by rw [← s1, ← hW0, ← hW4, ← hW3, ← hW2]; exact blk_alloc (blk_alloc (blk_alloc (heap_alloc_new _ _) _) _) _
  have b2 : W0.heap[w.heap.size + 1 + 1]? = some (.cells #[.string st] 9 (0, 0)) := by rw [← s2, ← hW0, ← hW4, ← hW3]; exact blk_alloc (blk_alloc (heap_alloc_new _ _) _) _
  have b3 : W0.heap[w.heap.size + 1 + 1 + 1]? = some (.cells (setCells zeroW) 67 (0, 0)) := by rw [← s3, ← hW0, ← hW4]; exact blk_alloc (heap_alloc_new _ _) _
  have b4 : W0.heap[w.heap.size + 1 + 1 + 1 + 1]? = some (tabBox ps bs A0 c0 A1 c1 m) := by rw [← s4, ← hW0]; exact heap_alloc_new _ _
  have hB0 : Below w.heap.size w W0 := by rw [← hW0, ← hW4, ← hW3, ← hW2, ← hW1]; exact below_alloc (below_alloc (below_alloc (below_alloc (below_alloc (Below.refl _ _) _) _) _) _) _
  rw [zeroW_cells] at hW4
  rw [hW1, hW2, hW3, hW4, hW0]
  clear hW0 hW1 hW2 hW3 hW4 s1 s2 s3 s4 hu67
  refine wpIn_rangeFunc_ownH (α := Int × S71) rfl (by omega) (gf := 76) (lb := #[.pointer (some ⟨w.heap.size + 1 + 1 + 1 + 1, 0, none⟩)]) rfl trivial (enters_of Tryd.func76 (by kernel_rfl) rfl)
    (parts_stops 5 (by omega) ps bs A0 c0 A1 c1 m (w.heap.size + 1 + 1 + 1 + 1) w HT.out W0 hB0 b4) (fun h k => ⟨h.1.trans k.1, k.2.trans h.2⟩) (fun W l o o' hl hh hc hwk => ⟨(Below.refl _ W).grown (grownBy_putObj' W l o') (by have := (Array.getElem?_eq_some_iff.1 hh).1; omega) (fun r e => by cases e; omega), World.putObj_heap_other (by omega)⟩) (Below.refl _ _) (fun _ => rfl)
    (fun pre W => ((W.heap[w.heap.size]? = some (tabBox ps bs A0 c0 A1 c1 m) ∧ W.heap[w.heap.size + 1]? = some (.cells (setCells ws) 67 (0, 0))) ∧ (W.heap[w.heap.size + 1 + 1]? = some (.cells #[.string st] 9 (0, 0)) ∧ W.heap[w.heap.size + 1 + 1 + 1]? = some (.cells (setCells (stepL pre ws st)) 67 (0, 0)))) ∧ (W0.heap.size ≤ W.heap.size ∧ Below w.heap.size w W))
    (fun _ _ _ => False)
    (OwnFrom.and (OwnFrom.and (OwnFrom.and (ownFrom_block (by omega) (fun _ => _)) (ownFrom_block (by omega) (fun _ => _))) (OwnFrom.and (ownFrom_block (by omega) (fun _ => _)) (ownFrom_block (by omega) _))) (OwnFrom.and (fun s W W' row hs hg hr => Nat.le_trans hs hg.size) (ownFrom_below (Nat.le_refl _) (by omega))))
    (fun _ _ _ _ _ hs _ _ => hs)
    ⟨⟨⟨b0, b1⟩, b2, b3⟩, Nat.le_refl _, hB0⟩
    (fun x a' W => ∃ Bx, (w.heap.size + 5 ≤ Bx ∧ W.heap[Bx]? = some (.cells #[.int .i64 x.2.f0, .string x.2.f1] 71 (0, 0))) ∧ a' = { tmps := #[.agg #[.slice A0 ps.length c0, .slice A1 bs.length c1, .int .i64 m], .agg (setCells ws), .string st, .pointer (some ⟨w.heap.size, 0, none⟩), .pointer (some ⟨w.heap.size + 1, 0, none⟩), .pointer (some ⟨w.heap.size + 1 + 1, 0, none⟩), .pointer (some ⟨w.heap.size + 1 + 1 + 1, 0, none⟩), .int .i64 x.1, .pointer (some ⟨Bx, 0, none⟩), .agg #[.slice A0 ps.length c0, .slice A1 bs.length c1, .int .i64 m], .func (.func 76) #[] #[.pointer (some ⟨w.heap.size + 1 + 1 + 1 + 1, 0, none⟩)], .int .i64 x.1, .agg #[.int .i64 x.2.f0, .string x.2.f1], undef, undef, undef, undef, undef, undef, undef, undef, undef, undef, undef, undef, undef, undef, undef, undef, undef, undef, undef, undef, undef, undef, undef, undef, undef, undef], defers := [] })
    (fun x a' _ X Y row hs hg hr => by
      obtain ⟨Bx, ⟨h1, h2⟩, h3⟩ := hs
      refine ⟨Bx, ⟨h1, (hg.block Bx (Array.getElem?_eq_some_iff.1 h2).1 (fun e => ?_)).trans h2⟩, h3⟩
      obtain ⟨o, ho, hcell⟩ := (hr Bx e.symm).2
      rw [h2] at ho
      cases ho
      cases hcell)
    ?assign ?body ?done ?stop
  case assign =>
    rintro l pre x W K ⟨⟨⟨c0', c1'⟩, c2', c3'⟩, hSz, hB⟩ hK
    have hK := Aside0.mk hK
    unfold partV
    gi_wp2
    refine hK.out _ _ ((KeepsOthers.alloc _ _).from _) ⟨(Below.refl _ W).alloc (by omega) _, Below.heap_alloc W _ _ (by omega)⟩ ⟨⟨⟨blk_alloc c0' _, blk_alloc c1' _⟩, blk_alloc c2' _, blk_alloc c3' _⟩, by simp; omega, below_alloc hB _⟩ ⟨W.heap.size, ⟨by omega, heap_alloc_new _ _⟩, rfl⟩
  case body =>
    rintro l pre x a' W hl ⟨r, hr⟩ ⟨⟨⟨bT, bS⟩, bW, bO⟩, hSz, hB⟩ ⟨Bx, ⟨hBx, bX⟩, rfl⟩ hlt
    have hok := stepL_ok pre ws st
    have HS := Aside0.mk (stepL_snoc pre x ws st)
    generalize stepL pre ws st = vs at *
    obtain ⟨n, k⟩ := x
    have d0 : W.cell? ⟨Bx, 0, none⟩ = some (.int .i64 k.f0) := (blk_cell bX 0).trans rfl
    have d1 : W.cell? ⟨Bx, 1, none⟩ = some (.string k.f1) := (blk_cell bX 1).trans rfl
    have d2 : W.cell? ⟨w.heap.size + 1 + 1, 0, none⟩ = some (.string st) := (blk_cell bW 0).trans rfl
    have hz := setCells_size HW.out
    have cH := Aside0.mk (fun W => has_any ws HW.out n W)
    have cPut := Aside0.mk (fun i W h => put_any vs hok i (w.heap.size + 1 + 1 + 1) W h)
    have BT := Aside0.mk bT
    have BS := Aside0.mk bS
    have BW := Aside0.mk bW
    have BO := Aside0.mk bO
    have BX := Aside0.mk bX
    have HB := Aside0.mk hB
    clear bT bS bW bO bX hB hr b0 b1 b2 b3 b4 hB0
    unfold stepOne at HS
    unfold setV at cH
    -- what every way ends in
    have fin : Aside0 (∀ (w1 w2 : World) (os : List Nat), Below W.heap.size W w1 → w1.grownBy w2 (some (w.heap.size + 1 + 1 + 1)) → w2.heap[w.heap.size + 1 + 1 + 1]? = some (.cells (setCells os) 67 (0, 0)) →
        (if inW ws n then (if k.f0 == 2 then putW vs n else if k.f0 == 1 || (k.f1.data.toList == st.data.toList) then putW vs (wrap64 (n + 1)) else vs) else vs) = os →
        KeepsFrom W0.heap.size W w2 ∧ KpT w.heap.size (w.heap.size + 1 + 1 + 1 + 1) W w2 ∧ (((w2.heap[w.heap.size]? = some (tabBox ps bs A0 c0 A1 c1 m) ∧ w2.heap[w.heap.size + 1]? = some (.cells (setCells ws) 67 (0, 0))) ∧ (w2.heap[w.heap.size + 1 + 1]? = some (.cells #[.string st] 9 (0, 0)) ∧ w2.heap[w.heap.size + 1 + 1 + 1]? = some (.cells (setCells (stepL (pre ++ [(n, k)]) ws st)) 67 (0, 0)))) ∧ (W0.heap.size ≤ w2.heap.size ∧ Below w.heap.size w w2))) := ⟨by
      intro w1 w2 os hb1 hg2 bO2 he
      have hb2 : Below w.heap.size W w2 := ((hb1.mono (by omega) : Below w.heap.size W w1)).grown hg2 (by have := hb1.size; omega) (fun r e => by cases e; omega)
      have hk : ∀ (i : Nat) (o : Obj), W.heap[i]? = some o → i ≠ w.heap.size + 1 + 1 + 1 → w2.heap[i]? = some o := fun i o h hne =>
        (hg2.block _ (by have := hb1.size; have := (Array.getElem?_eq_some_iff.1 h).1; omega) (by intro e; injection e with e; omega)).trans (blk_below5 hb1 h)
      refine ⟨(KeepsFrom.of_grownBy (grown_of_below hb1 none) (fun j e => by cases e)).trans (KeepsFrom.of_grownBy hg2 (fun j e => by cases e; omega)), ⟨hb2, ?_⟩, ⟨⟨⟨hk _ _ BT.out (by omega), hk _ _ BS.out (by omega)⟩, hk _ _ BW.out (by omega), ?_⟩, Nat.le_trans hSz hb2.size, HB.out.trans hb2⟩⟩
      · exact (hg2.block _ (by have := hb1.size; omega) (by intro e; injection e with e; omega)).trans (hb1.block _ (by omega))
      · rw [HS.out, he]; exact bO2⟩
    cases hq : inW ws n with
    | false =>
      rw [hq] at cH fin
      generalize setCells ws = cs at *
      gi_wp2_with (first | (refine wpListIn_load_set (by rfl) (.tmp 4) rfl (w.heap.size + 1) rfl cs hz BS.out ?_) | (refine ⟨trivial, ?_⟩; gi_at_call 61; refine (CallsIn.inRound l (callsIn_wide.2 (cH.out _))).mono ?_; rintro e w1 ⟨rfl, hb1⟩))
      exact fin.out w1 w1 vs hb1 (World.grownBy.refl _ _) (blk_below5 hb1 BO.out) (by simp)
    | true =>
      rw [hq] at cH fin
      generalize setCells ws = cs at *
      cases hk2 : (k.f0 == 2) with
      | true =>
        rw [hk2] at fin
        gi_wp2_with (first | (refine wpListIn_load_set (by rfl) (.tmp 4) rfl (w.heap.size + 1) rfl cs hz BS.out ?_) | (refine ⟨trivial, ?_⟩; gi_at_call 61; refine (CallsIn.inRound l (callsIn_wide.2 (cH.out _))).mono ?_; rintro e w1 ⟨rfl, hb1⟩; have d0' := pw_cell_below hb1 d0) | (refine ⟨trivial, ?_⟩; gi_at_call 64; refine (CallsIn.inRound l (callsIn_wide.2 (cPut.out n _ ?hh))).mono ?_; (case hh => exact blk_below5 hb1 BO.out); rintro e w2 ⟨rfl, bO2, hg2⟩))
        exact fin.out w1 w2 _ hb1 hg2 bO2 (by simp)
      | false =>
        rw [hk2] at fin
        cases hk1 : (k.f0 == 1) with
        | true =>
          rw [hk1] at fin
          gi_wp2_with (first | (refine wpListIn_load_set (by rfl) (.tmp 4) rfl (w.heap.size + 1) rfl cs hz BS.out ?_) | (refine ⟨trivial, ?_⟩; gi_at_call 61; refine (CallsIn.inRound l (callsIn_wide.2 (cH.out _))).mono ?_; rintro e w1 ⟨rfl, hb1⟩; have d0' := pw_cell_below hb1 d0; have d1' := pw_cell_below hb1 d1; have d2' := pw_cell_below hb1 d2) | (refine ⟨trivial, ?_⟩; gi_at_call 64; refine (CallsIn.inRound l (callsIn_wide.2 (cPut.out (wrap64 (n + 1)) _ ?hh))).mono ?_; (case hh => exact blk_below5 hb1 BO.out); rintro e w2 ⟨rfl, bO2, hg2⟩))
          exact fin.out w1 w2 _ hb1 hg2 bO2 (by simp)
        | false =>
          rw [hk1] at fin
          have hd : (k.f1.toList == st.toList) = (k.f1.data.toList == st.data.toList) := by rw [ByteArray.toList_eq, ByteArray.toList_eq]
          cases hst : (k.f1.data.toList == st.data.toList) with
          | true =>
            rw [hst] at fin hd
            gi_wp2_with (first | (refine wpListIn_load_set (by rfl) (.tmp 4) rfl (w.heap.size + 1) rfl cs hz BS.out ?_) | (refine ⟨trivial, ?_⟩; gi_at_call 61; refine (CallsIn.inRound l (callsIn_wide.2 (cH.out _))).mono ?_; rintro e w1 ⟨rfl, hb1⟩; have d0' := pw_cell_below hb1 d0; have d1' := pw_cell_below hb1 d1; have d2' := pw_cell_below hb1 d2) | (refine ⟨trivial, ?_⟩; gi_at_call 64; refine (CallsIn.inRound l (callsIn_wide.2 (cPut.out (wrap64 (n + 1)) _ ?hh))).mono ?_; (case hh => exact blk_below5 hb1 BO.out); rintro e w2 ⟨rfl, bO2, hg2⟩))
            exact fin.out w1 w2 _ hb1 hg2 bO2 (by simp)
          | false =>
            rw [hst] at fin hd
            gi_wp2_with (first | (refine wpListIn_load_set (by rfl) (.tmp 4) rfl (w.heap.size + 1) rfl cs hz BS.out ?_) | (refine ⟨trivial, ?_⟩; gi_at_call 61; refine (CallsIn.inRound l (callsIn_wide.2 (cH.out _))).mono ?_; rintro e w1 ⟨rfl, hb1⟩; have d0' := pw_cell_below hb1 d0; have d1' := pw_cell_below hb1 d1; have d2' := pw_cell_below hb1 d2))
            exact fin.out w1 w1 vs hb1 (World.grownBy.refl _ _) (blk_below5 hb1 BO.out) (by simp)
  case done =>
    rintro D zs W hD rfl ⟨⟨⟨bT, bS⟩, bW, bO⟩, hSz, hB⟩ hK
    have hok := stepL_ok (allParts ps bs) ws st
    have hoz := closeL_ok (allParts ps bs) hok
    have cC := Aside0.mk (fun W h => closed_any ps bs A0 c0 A1 c1 m _ hok W h)
    have hz := setCells_size hok
    have hz2 := setCells_size hoz
    have h1 := set_one (closeL (allParts ps bs) (stepL (allParts ps bs) ws st))
    have e0 : W.cell? ⟨w.heap.size, 0, none⟩ = some (.slice A0 ps.length c0) := (blk_cell bT 0).trans rfl
    have e1 : W.cell? ⟨w.heap.size, 1, none⟩ = some (.slice A1 bs.length c1) := (blk_cell bT 1).trans rfl
    have e2 : W.cell? ⟨w.heap.size, 2, none⟩ = some (.int .i64 m) := (blk_cell bT 2).trans rfl
    have BO := Aside0.mk bO
    have HB := Aside0.mk hB
    have HK := Aside0.mk hK
    clear bT bS bW bO hB hK b0 b1 b2 b3 b4 hB0
    unfold tabArg setV at cC
    generalize hcs : setCells (stepL (allParts ps bs) ws st) = cs at *
    generalize hvs : setCells (closeL (allParts ps bs) (stepL (allParts ps bs) ws st)) = vs at *
    have HVS := Aside0.mk hvs
    clear hcs hvs
    gi_wp2_with (first | (refine wpListIn_load_set (by rfl) (.tmp 6) rfl (w.heap.size + 1 + 1 + 1) rfl cs hz BO.out ?_) | (refine ⟨trivial, ?_⟩; gi_at_call 65; refine (callsIn_wide.2 (cC.out _ ?hh)).mono ?_; (case hh => exact HT.out.below HB.out); rintro e w1 ⟨rfl, hb1⟩; have bO1 := blk_below5 hb1 BO.out; have BO1 := Aside0.mk bO1; clear bO1) | (refine wpListIn_store_set (by rfl) (.tmp 6) (.tmp 38) rfl (w.heap.size + 1 + 1 + 1) rfl vs rfl hz2 h1 cs hz BO1.out ?_))
    have hK2 : (w1.setRow (w.heap.size + 1 + 1 + 1) vs).heap[D]? = some (.deferred (some [])) := (setRow_other _ _ _ _ (by omega)).trans (blk_below5 hb1 HK.out)
    have hR2 : ((w1.setRow (w.heap.size + 1 + 1 + 1) vs).putObj D (.deferred none)).heap[w.heap.size + 1 + 1 + 1]? = some (.cells vs 67 (0, 0)) := (World.putObj_heap_other (by omega)).trans (setRow_heap _ _ _ _ _ _ BO1.out)
    refine ⟨by simp, .inl ⟨_, _, rfl, run_takeDeferred hK2, ?_⟩⟩
    refine ⟨.agg vs, results_cell_row (P := Tryd.prog) rfl _ _ _ _ _ _ _ rfl hR2 Tryd.underlying67 rfl (by rw [hz2]; exact infoSet), by unfold nfaStep; rw [HVS.out], ?_⟩
    have hb2 := below_then HB.out HB.out.size hb1
    exact ((hb2.grown (grown_setRow _ _ _) hb2.size (fun r e => by cases e; omega))).grown (grownBy_putObj' _ _ _) (by have := hb2.size; simp; omega) (fun r e => by cases e; omega)
  case stop =>
    rintro D c pre W _ _ h _
    exact h.elim
theorem step_any (ps : List (List S71)) (bs : List Int) (A0 : Option Addr) (c0 : Nat) (A1 : Option Addr) (c1 : Nat) (m : Int) (ws : List Nat) (hw : OkW ws) (st : ByteArray) (w : World) (hT : TabAt ps bs A0 c0 A1 c1 w) :
    Calls Tryd.prog 45 #[tabArg ps bs A0 c0 A1 c1 m, setV ws, .string st] w fun e w' => e = .returned (setV (nfaStep (allParts ps bs) ws st)) ∧ Below w.heap.size w w' := callsIn_wide.1 (step_in ps bs A0 c0 A1 c1 m ws hw st w hT)
end Go.Proofs.YtpbkdeelkpjccaaDoor.G
