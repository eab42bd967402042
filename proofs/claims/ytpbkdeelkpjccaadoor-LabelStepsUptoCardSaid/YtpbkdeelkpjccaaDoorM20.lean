/- Merged by merge.py out of: Hclone. -/
import Derived.Test.YtpbkdeelkpjccaaDoorM03
import Derived.WalkSpells
namespace Go.Proofs.YtpbkdeelkpjccaaDoor.G
open Go.RowKit Go.Proofs.YtpbkdeelkpjccaaDoorW.PrintWords
set_option linter.unusedVariables false
set_option linter.unusedSimpArgs false
def Flat {α : Type} (d : Kd α) : Prop := ∀ w x cs, d.K w x cs → ∀ w' base ok, d.M w' base ok x cs
theorem flat_int (k : IntKind) : Flat (Kd.int k) := fun _ _ _ h _ _ _ => h
set_option maxHeartbeats 2000000 in
set_option maxRecDepth 100000 in
theorem clone_int (A : Option Addr) (c : Nat) (l : List Int) (w : World) (hr : Kd.C (Kd.int .i64) w A l.length l) (hc : l.length ≤ c) (hbig : l.length * 8 ≤ 140737488355328) :
    Calls Tryd.prog 19 #[.slice A l.length c] w fun e w' => ∃ v0_ : Value, e = .returned v0_ ∧ Kd.R (Kd.int .i64) 3 w' w.heap.size (fun _ => True) v0_ l ∧ Below w.heap.size w w' := by
  have q22 : ∀ (w : World) (a : Option Addr) (n c n' c' : Nat), (binOp .eql 22 (.slice a n c) (.slice none n' c')).run Tryd.prog w = .ok (.bool a.isNone) w := fun w a n c n' c' => Lib.run_eql_slice_nil w _ _ a n c n' c' Tryd.underlying22
  cases A with
  | none =>
    have h0 : l = [] := by
      rcases l with _ | ⟨x, l⟩
      · rfl
      · obtain ⟨ad, e, _⟩ := hr.2.2 (by simp)
        cases e
    subst h0
    clear hr
    go_enter Tryd.func19, Tryd.ntmps19
    go_wp2
    go_ret
    exact ⟨_, rfl, Kd.R_nil _ _ _ _ _, Below.refl _ _⟩
  | some ad =>
    obtain ⟨inner, hreps, hcell⟩ := ReadsRow.inner_ hr
    have hmax : l.length ≤ 9223372036854775807 := hr.2.1
    clear hr
    have HC := Aside0.mk hcell
    have HR := Aside0.mk hreps
    have hlen : inner.length = l.length * 1 := hreps.1
    have hone : ∀ u ∈ inner, u.oneCell' = true := by
      intro u hu
      obtain ⟨j, hj, rfl⟩ := List.getElem_of_mem hu
      have hjl : j / 1 < l.length := by omega
      have := hreps.2 (j / 1) _ (List.getElem?_eq_getElem hjl)
      refine ((Kd.int .i64)).K_one this _ (List.mem_iff_getElem?.2 ⟨j % 1, ?_⟩)
      show ((inner.drop (j / 1 * 1)).take 1)[j % 1]? = _
      rw [List.getElem?_take_of_lt (Nat.mod_lt _ (by decide)), List.getElem?_drop, show j / 1 * 1 + j % 1 = j by omega, List.getElem?_eq_getElem hj]
    clear hcell hreps
    obtain ⟨i0, hi, hz0, hz1, hz2⟩ := info_parts info3
    have HL := Aside0.mk hlen
    have H1 := Aside0.mk hone
    clear hlen hone
    go_enter Tryd.func19, Tryd.ntmps19
    go_wp2_with (at_builtin; refine wpList_append_own _ rfl _ _ 22 rfl w.heap.size 3 i0 (.int .i64 0) 1 8 Tryd.underlying22 hi hz0 hz1 hz2 rfl (by decide) _ _ _ rfl (World.ownsRow_made w #[] 0 (Nat.le_refl _) (Nat.zero_le _) (by simp)) ad l.length c inner rfl ?qc1 ?qc2 ?qc3 ?qc4 ?qc5 ?qc6 ?_)
    case qc1 => exact HL.out
    case qc2 =>
      intro j u hj
      have hcu := HC.out j u hj
      rw [← hcu]
      exact (Below.alloc (Below.refl w.heap.size w) (Nat.le_refl _) _).cell (World.block_lt_of_cell? w _ hcu)
    case qc3 => exact H1.out
    case qc4 => rw [Nat.zero_add]; unfold maxLen; exact hmax
    case qc5 => rw [Nat.zero_add]; exact hbig
    case qc6 => simp
    intro v' w1 hown hgrow hnil
    go_wp2
    go_ret
    refine ⟨_, rfl, ⟨fun _ _ => trivial, inner, ?_, ?_⟩, ?_⟩
    · first | exact hown | simpa using hown
    · exact ⟨HR.out.1, fun j p hj => flat_int .i64 _ _ _ (HR.out.2 j p hj) _ _ _⟩
    · exact (below_alloc (Below.refl w.heap.size w) _).grown hgrow (by simp) (fun k e => by first | (cases e; simp) | (simp [Value.ownBlock] at e; omega))
def slices_Clone_int_int.f (l0 : List Int) : Option (List Int) := if l0.length ≤ 17592186044416 then some l0 else none
theorem slices_Clone_int_int.calls (A0 : Option Addr) (c0 : Nat) (l0 : List Int) (r : List Int) (w : World) (hr0 : Kd.C (Kd.int .i64) w A0 l0.length l0) (hc0 : l0.length ≤ c0) (h : slices_Clone_int_int.f l0 = some r) :
    Calls Tryd.prog 19 #[.slice A0 l0.length c0] w fun e w' => ∃ v0_ : Value, e = .returned (v0_) ∧ Kd.R (Kd.int .i64) 3 w' w.heap.size (fun _ => True) v0_ r ∧ Below w.heap.size w w' := by
  unfold slices_Clone_int_int.f at h
  split at h
  · rename_i hs; obtain rfl := Option.some.inj h; exact clone_int A0 c0 _ w hr0 hc0 (by omega)
  · cases h
theorem flat_Part : Flat k71 := fun w x cs h w' base ok => by
  rw [k71_open h]; exact k71_mkM w' base ok x
set_option maxHeartbeats 2000000 in
set_option maxRecDepth 100000 in
theorem clone_Part (A : Option Addr) (c : Nat) (l : List S71) (w : World) (hr : Kd.C k71 w A l.length l) (hc : l.length ≤ c) (hbig : l.length * 24 ≤ 140737488355328) :
    Calls Tryd.prog 53 #[.slice A l.length c] w fun e w' => ∃ v0_ : Value, e = .returned v0_ ∧ Kd.R k71 71 w' w.heap.size (fun _ => True) v0_ l ∧ Below w.heap.size w w' := by
  have q22 : ∀ (w : World) (a : Option Addr) (n c n' c' : Nat), (binOp .eql 48 (.slice a n c) (.slice none n' c')).run Tryd.prog w = .ok (.bool a.isNone) w := fun w a n c n' c' => Lib.run_eql_slice_nil w _ _ a n c n' c' Tryd.underlying48
  cases A with
  | none =>
    have h0 : l = [] := by
      rcases l with _ | ⟨x, l⟩
      · rfl
      · obtain ⟨ad, e, _⟩ := hr.2.2 (by simp)
        cases e
    subst h0
    clear hr
    go_enter Tryd.func53, Tryd.ntmps53
    go_wp2
    go_ret
    exact ⟨_, rfl, Kd.R_nil _ _ _ _ _, Below.refl _ _⟩
  | some ad =>
    obtain ⟨inner, hreps, hcell⟩ := ReadsRow.inner_ hr
    have hmax : l.length ≤ 9223372036854775807 := hr.2.1
    clear hr
    have HC := Aside0.mk hcell
    have HR := Aside0.mk hreps
    have hlen : inner.length = l.length * 2 := hreps.1
    have hone : ∀ u ∈ inner, u.oneCell' = true := by
      intro u hu
      obtain ⟨j, hj, rfl⟩ := List.getElem_of_mem hu
      have hjl : j / 2 < l.length := by omega
      have := hreps.2 (j / 2) _ (List.getElem?_eq_getElem hjl)
      refine (k71).K_one this _ (List.mem_iff_getElem?.2 ⟨j % 2, ?_⟩)
      show ((inner.drop (j / 2 * 2)).take 2)[j % 2]? = _
      rw [List.getElem?_take_of_lt (Nat.mod_lt _ (by decide)), List.getElem?_drop, show j / 2 * 2 + j % 2 = j by omega, List.getElem?_eq_getElem hj]
    clear hcell hreps
    obtain ⟨i0, hi, hz0, hz1, hz2⟩ := info_parts info71
    have HL := Aside0.mk hlen
    have H1 := Aside0.mk hone
    clear hlen hone
    go_enter Tryd.func53, Tryd.ntmps53
    go_wp2_with (at_builtin; refine wpList_append_own _ rfl _ _ 48 rfl w.heap.size 71 i0 (.agg #[(.int .i64 0), (.string ⟨#[]⟩)]) 2 24 Tryd.underlying48 hi hz0 hz1 hz2 rfl (by decide) _ _ _ rfl (World.ownsRow_made w #[] 0 (Nat.le_refl _) (Nat.zero_le _) (by simp)) ad l.length c inner rfl ?qc1 ?qc2 ?qc3 ?qc4 ?qc5 ?qc6 ?_)
    case qc1 => exact HL.out
    case qc2 =>
      intro j u hj
      have hcu := HC.out j u hj
      rw [← hcu]
      exact (Below.alloc (Below.refl w.heap.size w) (Nat.le_refl _) _).cell (World.block_lt_of_cell? w _ hcu)
    case qc3 => exact H1.out
    case qc4 => rw [Nat.zero_add]; unfold maxLen; exact hmax
    case qc5 => rw [Nat.zero_add]; exact hbig
    case qc6 => simp
    intro v' w1 hown hgrow hnil
    go_wp2
    go_ret
    refine ⟨_, rfl, ⟨fun _ _ => trivial, inner, ?_, ?_⟩, ?_⟩
    · first | exact hown | simpa using hown
    · exact ⟨HR.out.1, fun j p hj => flat_Part _ _ _ (HR.out.2 j p hj) _ _ _⟩
    · exact (below_alloc (Below.refl w.heap.size w) _).grown hgrow (by simp) (fun k e => by first | (cases e; simp) | (simp [Value.ownBlock] at e; omega))
def clonePart.f (l0 : List S71) : Option (List S71) := if l0.length ≤ 5864062014805 then some l0 else none
theorem clonePart.calls (A0 : Option Addr) (c0 : Nat) (l0 : List S71) (r : List S71) (w : World) (hr0 : Kd.C k71 w A0 l0.length l0) (hc0 : l0.length ≤ c0) (h : clonePart.f l0 = some r) :
    Calls Tryd.prog 53 #[.slice A0 l0.length c0] w fun e w' => ∃ v0_ : Value, e = .returned (v0_) ∧ Kd.R k71 71 w' w.heap.size (fun _ => True) v0_ r ∧ Below w.heap.size w w' := by
  unfold clonePart.f at h
  split at h
  · rename_i hs; obtain rfl := Option.some.inj h; exact clone_Part A0 c0 _ w hr0 hc0 (by omega)
  · cases h
end Go.Proofs.YtpbkdeelkpjccaaDoor.G
