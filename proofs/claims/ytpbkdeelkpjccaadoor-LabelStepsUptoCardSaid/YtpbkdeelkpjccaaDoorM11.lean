/- Merged by merge.py out of: Hnode, HrightA, Psteps, Pflat, Hmap, HtwiceA. -/
import Derived.Test.YtpbkdeelkpjccaaDoorM07
import Derived.Test.YtpbkdeelkpjccaaDoorM10
import Derived.Test.YtpbkdeelkpjccaaDoorM05
import Derived.Test.YtpbkdeelkpjccaaDoorM06
import Derived.Test.YtpbkdeelkpjccaaDoorM04
import Derived.Test.YtpbkdeelkpjccaaDoorM03
import Derived.Maps.OwnOps
import Derived.Maps.OwnSet
import Derived.WideKeyEntry
import Derived.DeepKeys4
namespace Go.Proofs.YtpbkdeelkpjccaaDoor.G
open Go.RowKit Go.Proofs.YtpbkdeelkpjccaaDoorW.PrintWords
set_option linter.unusedVariables false
set_option linter.unusedSimpArgs false
def evens {α : Type} : List α → List α
  | [] => []
  | [a] => [a]
  | a :: _ :: r => a :: evens r
theorem evens_mem {α : Type} : ∀ (l : List α) (x : α), x ∈ evens l → x ∈ l
  | [], x, h => h
  | [a], x, h => h
  | a :: b :: r, x, h => by
    simp only [evens, List.mem_cons] at h ⊢
    rcases h with h | h
    · exact .inl h
    · exact .inr (.inr (evens_mem r x h))
theorem evens_drop {α : Type} (l : List α) (i : Nat) (h : i < l.length) : evens (l.drop i) = l[i] :: evens (l.drop (i + 2)) := by
  rw [List.drop_eq_getElem_cons h]
  by_cases h2 : i + 1 < l.length
  · rw [List.drop_eq_getElem_cons h2]; rfl
  · have e : l.drop (i + 1) = [] := List.drop_eq_nil_iff.2 (by omega)
    have e2 : l.drop (i + 2) = [] := List.drop_eq_nil_iff.2 (by omega)
    rw [e, e2]; rfl
theorem rd_get (xs : List Int) (i : Nat) (h : i < xs.length) : rd xs (i : Int) = xs[i] := by
  unfold rd; rw [Int.toNat_natCast, getD_lt _ _ h]
theorem keys_l0 (a0 : Int) (a1 a2 : ByteArray) (l : List Int) (hl : l.length ≤ 17592186044416) (d : Nat) : ∀ (k i : Nat) (acc : List Int), l.length - i ≤ d → d < k → acc.length * 2 ≤ i → i ≤ l.length + 1 →
    arena_Node_keys.l0 k acc (i : Int) a0 a1 a2 l = some (acc ++ evens (l.drop i)) := by
  induction d with
  | zero =>
    intro k i acc hd hk ha hi
    obtain ⟨k, rfl⟩ : ∃ m, k = m + 1 := ⟨k - 1, by omega⟩
    have e : l.drop i = [] := List.drop_eq_nil_iff.2 (by omega)
    simp only [arena_Node_keys.l0]
    rw [if_neg (by omega), e]; simp [evens]
  | succ d ih =>
    intro k i acc hd hk ha hi
    obtain ⟨k, rfl⟩ : ∃ m, k = m + 1 := ⟨k - 1, by omega⟩
    simp only [arena_Node_keys.l0]
    by_cases h : i < l.length
    · rw [if_pos (by omega), if_pos (by omega), if_pos (by omega), w64 (by omega) (by omega), rd_get l i h]
      have := ih k (i + 2) (acc ++ [l[i]]) (by omega) (by omega) (by simp; omega) (by omega)
      rw [show ((i : Int) + 2) = ((i + 2 : Nat) : Int) by omega, this, evens_drop l i h]
      simp
    · have e : l.drop i = [] := List.drop_eq_nil_iff.2 (by omega)
      rw [if_neg (by omega), e]; simp [evens]
theorem keys_f (a0 : Int) (a1 a2 : ByteArray) (l : List Int) (hl : l.length ≤ 17592186044416) : arena_Node_keys.f (l.length + 1) a0 a1 a2 l = some (evens l) := by
  unfold arena_Node_keys.f
  have := keys_l0 a0 a1 a2 l hl l.length (l.length + 1) 0 [] (by omega) (by omega) (by simp) (by omega)
  simpa using this
theorem keys_any (a0 : Int) (a1 a2 : ByteArray) (A : Option Addr) (c : Nat) (l : List Int) (hl : l.length ≤ 17592186044416) (w : World) (hr : Kd.C (Kd.int .i64) w A l.length l) (hc : l.length ≤ c) :
    Calls Tryd.prog 59 #[.agg #[.int .i64 a0, .string a1, .string a2, .slice A l.length c]] w fun e w' => ∃ A' c', e = .returned (.slice A' (evens l).length c') ∧ (evens l).length ≤ c' ∧ Kd.C (Kd.int .i64) w' A' (evens l).length (evens l) ∧ Below w.heap.size w w' :=
  (arena_Node_keys.calls _ a0 a1 a2 A c l _ w hr hc (keys_f a0 a1 a2 l hl)).mono fun e w' ⟨v, he, hR, hb⟩ => by
    obtain ⟨A', c', rfl, hl', hC⟩ := Kd.R_reads hR
    exact ⟨A', c', he, hl', hC, hb⟩
def hasB (n : Nat) (i : Int) : Bool := decide (0 ≤ i) && decide (i < (n : Int))
theorem has_f (g : List S34) (i : Int) : arena_Graph_has.f g i = some (hasB g.length i) := by
  unfold arena_Graph_has.f hasB
  by_cases h : 0 ≤ i
  · rw [if_pos (show i ≥ 0 from h)]; simp [h]
  · rw [if_neg (show ¬ i ≥ 0 from h)]; simp [h]
theorem right1_any (g : List S34) (A : Option Addr) (c : Nat) (i : Int) (B : Nat) (w : World) (hB : w.cell? ⟨B, 0, none⟩ = some (.slice A g.length c)) (hr : Kd.C k34 w A g.length g) (hc : g.length ≤ c) :
    Calls Tryd.prog 54 #[.int .i64 i, .pointer (some ⟨B, 0, none⟩)] w fun e w' => e = .returned (.bool (!hasB g.length i)) ∧ Below w.heap.size w w' := by
  have hcall := arena_Graph_has.calls A c g i _ w hr hc (has_f g i)
  generalize hasB g.length i = b at hcall ⊢
  generalize g.length = n at hcall hB
  clear hr hc
  go_enter Tryd.func54, Tryd.ntmps54
  go_wp2_with (go_at_call 55; refine hcall.mono ?_; rintro e w' ⟨rfl, ⟨q, rfl⟩⟩)
  go_ret
  exact ⟨rfl, pw_below_drewN (Below.refl _ _) _⟩
theorem right2_any (g : List S34) (A : Option Addr) (c : Nat) (i : Int) (h0 : 0 ≤ i) (h1 : i < (g.length : Int)) (B : Nat) (w : World) (hB : w.cell? ⟨B, 0, none⟩ = some (.slice A g.length c)) (hr : Kd.C k34 w A g.length g) :
    Calls Tryd.prog 58 #[.int .i64 i, .pointer (some ⟨B, 0, none⟩)] w fun e w' => e = .returned (.bool ((rd_T34 g i).f0 != 0)) ∧ Below w.heap.size w w' := by
  obtain ⟨ad, A3, c3, e, q0, _⟩ := at_T34 hr i h0 h1
  cases e
  have hmax : g.length ≤ 9223372036854775807 := hr.2.1
  clear hr
  generalize (rd_T34 g i).f0 = z at q0 ⊢
  generalize g.length = n at hB h1 hmax
  go_enter Tryd.func58, Tryd.ntmps58
  go_wp2
  go_ret
  exact ⟨rfl, Below.refl _ _⟩
def plainL (l : List UInt8) : Bool := l == [110, 117, 108, 108] || l == [98, 111, 111, 108] || l == [105, 110, 116] || l == [102, 108, 111, 97, 116]
def coreL (l : List UInt8) : Bool := l == [115, 101, 113] || l == [109, 97, 112] || l == [115, 116, 114] || plainL l
theorem plain_f (t : ByteArray) : tag_plain.f t = some (plainL t.toList) := by
  unfold tag_plain.f plainL
  by_cases h1 : t.toList = [110, 117, 108, 108]
  · rw [if_pos h1, h1]; rfl
  · rw [if_neg h1]
    by_cases h2 : t.toList = [98, 111, 111, 108]
    · rw [if_pos h2, h2]; rfl
    · rw [if_neg h2]
      by_cases h3 : t.toList = [105, 110, 116]
      · rw [if_pos h3, h3]; rfl
      · rw [if_neg h3]; simp [h1, h2, h3]
theorem core_f (t : ByteArray) : tag_Core.f t = some (coreL t.toList) := by
  unfold tag_Core.f coreL
  rw [plain_f]
  by_cases h1 : t.toList = [115, 101, 113]
  · rw [if_pos h1, h1]; rfl
  · rw [if_neg h1]
    by_cases h2 : t.toList = [109, 97, 112]
    · rw [if_pos h2, h2]; rfl
    · rw [if_neg h2]
      by_cases h3 : t.toList = [115, 116, 114]
      · rw [if_pos h3, h3]; rfl
      · rw [if_neg h3]; simp [h1, h2, h3]
def tagB (t : ByteArray) : Bool := coreL t.toList || ownB t
theorem tagRight_f (t : ByteArray) : tag_Right.f t = some (tagB t) := by
  unfold tag_Right.f tagB
  rw [core_f]
  simp only [Option.bind_some, tag_own.f]
  cases coreL t.toList <;> simp
def fitsB (t s : ByteArray) : Bool :=
  if plainL t.toList then resolveL s.data.toList == t.toList || (t.toList == [102, 108, 111, 97, 116] && resolveL s.data.toList == [105, 110, 116])
  else t.toList == [115, 116, 114] || ownB t
theorem fits_f (t s : ByteArray) (hs : s.size ≤ 140737488355328) : tag_Fits.f t s = some (fitsB t s) := by
  unfold tag_Fits.f fitsB
  rw [plain_f]
  simp only [Option.bind_some]
  cases hp : plainL t.toList
  · simp only [Bool.false_eq_true, if_false]
    by_cases h1 : t.toList = [115, 116, 114]
    · rw [if_pos h1, h1]; rfl
    · rw [if_neg h1]; simp [h1, tag_own.f]
  · simp only [if_true]
    unfold tag_Resolve.f
    rw [if_pos hs]
    simp only [Option.bind_some, ba_toList (⟨(resolveL s.data.toList).toArray⟩ : ByteArray)]
    by_cases h1 : resolveL s.data.toList = t.toList
    · rw [if_pos h1]; simp [h1]
    · rw [if_neg h1]
      by_cases h2 : t.toList = [102, 108, 111, 97, 116]
      · rw [if_pos h2, h2]
        rw [h2] at h1
        simp [h1]
      · rw [if_neg h2]; simp [h1, h2]
end Go.Proofs.YtpbkdeelkpjccaaDoor.G

namespace Go.Proofs.YtpbkdeelkpjccaaDoor.G
open Go.RowKit Go.Proofs.YtpbkdeelkpjccaaDoorW.PrintWords
set_option linter.unusedVariables false
set_option linter.unusedSimpArgs false
def fitN (x : S34) : Prop := x.f1.size ≤ 140737488355328 ∧ x.f2.size ≤ 140737488355328 ∧ x.f3.length ≤ 17592186044416
def nodeB (g : List S34) (x : S34) : Bool :=
  if (x.f3.all fun i => hasB g.length i) = false then false
  else if x.f0 = 0 then x.f3.isEmpty && (validB x.f2 && fitsB x.f1 x.f2)
  else if x.f0 = 1 then (tagB x.f1 && !coreL x.f1.toList || x.f1.toList == [115, 101, 113]) && x.f2.toList.isEmpty
  else if x.f0 = 2 then
    if x.f3.length % 2 = 0 ∧ ((evens x.f3).any fun i => (rd_T34 g i).f0 != 0) = false then (tagB x.f1 && !coreL x.f1.toList || x.f1.toList == [109, 97, 112]) && x.f2.toList.isEmpty else false
  else false
theorem any_range {α : Type} (p : α → Bool) (xs : List α) (f : Nat → α) (hf : ∀ j (h : j < xs.length), f j = xs[j]) : (List.range xs.length).any (fun j => p (f j)) = xs.any p := by
  rw [Bool.eq_iff_iff, List.any_eq_true, List.any_eq_true]
  constructor
  · rintro ⟨j, hj, h⟩
    have hj := List.mem_range.1 hj
    rw [hf j hj] at h
    exact ⟨_, List.getElem_mem hj, h⟩
  · rintro ⟨x, hx, h⟩
    obtain ⟨j, hj, rfl⟩ := List.getElem_of_mem hx
    exact ⟨j, List.mem_range.2 hj, by rw [hf j hj]; exact h⟩
section
variable (g : List S34) (A : Option Addr) (c : Nat) (x : S34) (A3 : Option Addr) (c3 : Nat) (w : World)
structure RightAt (w : World) : Prop where
  hT : Tabs w
  hg : Kd.C k34 w A g.length g
  hgc : g.length ≤ c
  h3 : Kd.C (Kd.int .i64) w A3 x.f3.length x.f3
  h3c : x.f3.length ≤ c3
  fit : fitN x
theorem RightAt.far (h : RightAt g A c x A3 c3 w) (B : Nat) (hB : w.cell? ⟨B, 0, none⟩ = some (.slice A g.length c)) :
    Calls Tryd.prog 34 #[.slice A3 x.f3.length c3, .func (.func 54) #[] #[.pointer (some ⟨B, 0, none⟩)]] w fun e w' => e = .returned (.bool (!(x.f3.all fun i => hasB g.length i))) ∧ Below w.heap.size w w' := by
  have ht : Tells Tryd.prog 54 #[.pointer (some ⟨B, 0, none⟩)] (fun j => .int .i64 (rd x.f3 j)) x.f3.length (fun j => !hasB g.length (rd x.f3 j)) w := by
    intro j W hj hb
    exact right1_any g A c _ B W (pw_cell_below hb hB) (Kd.C_below h.hg hb) h.hgc
  have := ContainsFunc_int _ _ (enters_of Tryd.func54 (by kernel_rfl) rfl) A3 c3 x.f3 _ w h.h3 ht
  rw [any_range (fun i => !hasB g.length i) x.f3 (fun j => rd x.f3 j) (fun j hj => rd_get _ j hj)] at this
  rw [List.not_all_eq_any_not]
  exact this
theorem RightAt.strange (h : RightAt g A c x A3 c3 w) (hall : (x.f3.all fun i => hasB g.length i) = true) (B : Nat) (hB : w.cell? ⟨B, 0, none⟩ = some (.slice A g.length c)) (A' : Option Addr) (c' : Nat) (hr : Kd.C (Kd.int .i64) w A' (evens x.f3).length (evens x.f3)) :
    Calls Tryd.prog 34 #[.slice A' (evens x.f3).length c', .func (.func 58) #[] #[.pointer (some ⟨B, 0, none⟩)]] w fun e w' => e = .returned (.bool ((evens x.f3).any fun i => (rd_T34 g i).f0 != 0)) ∧ Below w.heap.size w w' := by
  have ht : Tells Tryd.prog 58 #[.pointer (some ⟨B, 0, none⟩)] (fun j => .int .i64 (rd (evens x.f3) j)) (evens x.f3).length (fun j => (rd_T34 g (rd (evens x.f3) j)).f0 != 0) w := by
    intro j W hj hb
    have hm : rd (evens x.f3) j ∈ x.f3 := evens_mem _ _ (by rw [rd_get _ j hj]; exact List.getElem_mem hj)
    have hh := List.all_eq_true.1 hall _ hm
    simp only [hasB, Bool.and_eq_true, decide_eq_true_eq] at hh
    exact right2_any g A c _ hh.1 hh.2 B W (pw_cell_below hb hB) (Kd.C_below h.hg hb)
  have := ContainsFunc_int _ _ (enters_of Tryd.func58 (by kernel_rfl) rfl) A' c' (evens x.f3) _ w hr ht
  rw [any_range (fun i => (rd_T34 g i).f0 != 0) (evens x.f3) (fun j => rd (evens x.f3) j) (fun j hj => rd_get _ j hj)] at this
  exact this
end
end Go.Proofs.YtpbkdeelkpjccaaDoor.G

namespace Go.Proofs.YtpbkdeelkpjccaaDoor.G
open Go.RowKit Go.Proofs.YtpbkdeelkpjccaaDoorW.PrintWords
set_option linter.unusedVariables false
set_option linter.unusedSimpArgs false
def stepAt (kind : Int) (kids : List Int) (g : List S34) (i : Nat) : ByteArray :=
  if kind = 1 then ⟨(Lib.itoa (i : Int)).toArray⟩ else if kind = 2 ∧ i % 2 = 1 then (if 0 ≤ kids.getD (i - 1) 0 ∧ kids.getD (i - 1) 0 < (g.length : Int) then (g.getD (kids.getD (i - 1) 0).toNat z34).f2 else ⟨#[]⟩) else ⟨#[]⟩
def stepsL (kind : Int) (kids : List Int) (g : List S34) : List ByteArray := if kind = 0 then [] else (List.range kids.length).map (stepAt kind kids g)
def stepAcc (kind : Int) (kids : List Int) (g : List S34) (i : Nat) : List ByteArray := (List.range i).map (stepAt kind kids g) ++ List.replicate (kids.length - i) ⟨#[]⟩
theorem stepAcc_len (kind : Int) (kids : List Int) (g : List S34) (i : Nat) (h : i ≤ kids.length) : (stepAcc kind kids g i).length = kids.length := by
  simp [stepAcc]; omega
theorem stepAcc_set (kind : Int) (kids : List Int) (g : List S34) (i : Nat) (h : i < kids.length) : (stepAcc kind kids g i).set i (stepAt kind kids g i) = stepAcc kind kids g (i + 1) := by
  unfold stepAcc
  rw [List.set_append_right _ _ (by simp), List.range_succ, List.map_append, List.append_assoc]
  congr 1
  obtain ⟨m, hm⟩ : ∃ m, kids.length - i = m + 1 := ⟨kids.length - i - 1, by omega⟩
  rw [hm, show kids.length - (i + 1) = m by omega]
  simp [List.replicate_succ]
theorem stepAcc_none (kind : Int) (kids : List Int) (g : List S34) (i : Nat) (h : i < kids.length) (h0 : stepAt kind kids g i = ⟨#[]⟩) : stepAcc kind kids g i = stepAcc kind kids g (i + 1) := by
  rw [← stepAcc_set kind kids g i h, h0]
  symm
  apply List.ext_getElem?
  intro j
  rw [List.getElem?_set]
  split
  · rename_i e; subst e
    rw [if_pos (by rw [stepAcc_len _ _ _ _ (by omega)]; exact h)]
    unfold stepAcc
    rw [List.getElem?_append_right (by simp)]
    simp only [List.length_map, List.length_range, Nat.sub_self]
    rw [List.getElem?_replicate, if_pos (by omega)]
  · rfl
theorem rdT_get (g : List S34) (i : Int) : rd_T34 g i = g.getD i.toNat z34 := rfl
theorem steps_l0 (kind : Int) (hk0 : kind ≠ 0) (t0 t1 : ByteArray) (kids : List Int) (g : List S34) (hl : kids.length ≤ 17592186044416) (d : Nat) : ∀ (k i : Nat), kids.length - i ≤ d → 2 * d + 1 ≤ k → i ≤ kids.length →
    label_Steps.l0 k g (stepAcc kind kids g i) (kids.length : Int) (i : Int) kind t0 t1 kids = some ((List.range kids.length).map (stepAt kind kids g)) := by
  induction d with
  | zero =>
    intro k i h1 h2 h3
    obtain ⟨k, rfl⟩ : ∃ m, k = m + 1 := ⟨k - 1, by omega⟩
    obtain rfl : i = kids.length := by omega
    unfold label_Steps.l0
    rw [if_neg (by omega)]
    simp [stepAcc]
  | succ d ih =>
    intro k i h1 h2 h3
    by_cases hi : i < kids.length
    · obtain ⟨k, rfl⟩ : ∃ m, k = m + 1 := ⟨k - 1, by omega⟩
      have hw : wrap64 ((i : Int) + 1) = ((i + 1 : Nat) : Int) := by rw [IntWalk.wrap64_in _ (by omega)]; omega
      have hlen := stepAcc_len kind kids g i h3
      unfold label_Steps.l0
      rw [if_pos (by omega)]
      by_cases h1k : kind = 1
      · rw [if_pos h1k]
        unfold strconv_Itoa.f
        rw [if_pos (by omega)]
        simp only [Option.bind_some]
        rw [if_pos (by omega), if_pos (by omega), hw, Int.toNat_natCast, show (⟨(Lib.itoa (i : Int)).toArray⟩ : ByteArray) = stepAt kind kids g i by unfold stepAt; rw [if_pos h1k], stepAcc_set _ _ _ _ hi]
        exact ih k (i + 1) (by omega) (by omega) (by omega)
      · rw [if_neg h1k]
        obtain ⟨k, rfl⟩ : ∃ m, k = m + 1 := ⟨k - 1, by omega⟩
        have hnext := ih k (i + 1) (by omega) (by omega) (by omega)
        by_cases h2k : kind = 2
        · rw [if_pos h2k]
          unfold label_Steps.j1
          by_cases hodd : i % 2 = 1
          · have ht : ((Int.tmod (i : Int) 2) == 1) = true := by
              rw [Int.tmod_eq_emod_of_nonneg (by omega)]; simp; omega
            rw [if_pos ht]
            have hw1 : wrap64 ((i : Int) - 1) = ((i - 1 : Nat) : Int) := by rw [IntWalk.wrap64_in _ (by omega)]; omega
            have hrd : rd kids (wrap64 ((i : Int) - 1)) = kids.getD (i - 1) 0 := by rw [hw1]; unfold rd; rw [Int.toNat_natCast]
            rw [hrd, hw1, if_pos (by omega), if_pos (by omega)]
            have hst : stepAt kind kids g i = if 0 ≤ kids.getD (i - 1) 0 ∧ kids.getD (i - 1) 0 < (g.length : Int) then (g.getD (kids.getD (i - 1) 0).toNat z34).f2 else ⟨#[]⟩ := by unfold stepAt; rw [if_neg h1k, if_pos ⟨h2k, hodd⟩]
            by_cases ha : kids.getD (i - 1) 0 ≥ 0
            · rw [if_pos ha]
              by_cases hb : kids.getD (i - 1) 0 < (g.length : Int)
              · rw [if_pos hb, if_pos ha, if_pos (by omega), if_pos (by omega), hw, Int.toNat_natCast, rdT_get]
                rw [if_pos ⟨ha, hb⟩] at hst
                rw [← hst, stepAcc_set _ _ _ _ hi]
                exact hnext
              · rw [if_neg hb, hw]
                rw [if_neg (by omega)] at hst
                rw [stepAcc_none _ _ _ _ hi hst]
                exact hnext
            · rw [if_neg ha, hw]
              rw [if_neg (by omega)] at hst
              rw [stepAcc_none _ _ _ _ hi hst]
              exact hnext
          · have ht : ((Int.tmod (i : Int) 2) == 1) = false := by
              rw [Int.tmod_eq_emod_of_nonneg (by omega)]; simp; omega
            rw [ht, if_neg (by simp), hw]
            have hst : stepAt kind kids g i = ⟨#[]⟩ := by unfold stepAt; rw [if_neg h1k, if_neg (by omega)]
            rw [stepAcc_none _ _ _ _ hi hst]
            exact hnext
        · rw [if_neg h2k]
          unfold label_Steps.j1
          rw [if_neg (by simp), hw]
          have hst : stepAt kind kids g i = ⟨#[]⟩ := by unfold stepAt; rw [if_neg h1k, if_neg (by omega)]
          rw [stepAcc_none _ _ _ _ hi hst]
          exact hnext
    · obtain rfl : i = kids.length := by omega
      obtain ⟨k, rfl⟩ : ∃ m, k = m + 1 := ⟨k - 1, by omega⟩
      unfold label_Steps.l0
      rw [if_neg (by omega)]
      simp [stepAcc]
theorem steps_f (kind : Int) (t0 t1 : ByteArray) (kids : List Int) (g : List S34) (hl : kids.length ≤ 17592186044416) : label_Steps.f (2 * kids.length + 1) kind t0 t1 kids g = some (stepsL kind kids g) := by
  unfold label_Steps.f stepsL
  by_cases h : kind = 0
  · rw [if_pos h, if_pos h]
  · rw [if_neg h, if_neg h, if_pos (by omega), if_pos (by omega)]
    have := steps_l0 kind h t0 t1 kids g hl kids.length (2 * kids.length + 1) 0 (by omega) (by omega) (by omega)
    rw [← this]
    simp [stepAcc]
theorem steps_calls (x : S34) (A3 : Option Addr) (c3 : Nat) (A : Option Addr) (c : Nat) (g : List S34) (w : World) (hT : Tabs w) (h3 : Kd.C (Kd.int .i64) w A3 x.f3.length x.f3) (l3 : x.f3.length ≤ c3) (hr : Kd.C k34 w A g.length g) (hc : g.length ≤ c) (hl : x.f3.length ≤ 17592186044416) :
    Calls Tryd.prog 9 #[.agg #[.int .i64 x.f0, .string x.f1, .string x.f2, .slice A3 x.f3.length c3], .slice A g.length c] w fun e w' => ∃ v, e = .returned v ∧ Kd.R Kd.string 9 w' w.heap.size (fun _ => True) v (stepsL x.f0 x.f3 g) ∧ Below w.heap.size w w' :=
  label_Steps.calls (2 * x.f3.length + 1) x.f0 x.f1 x.f2 A3 c3 x.f3 A c g _ w hT h3 l3 hr hc (steps_f x.f0 x.f1 x.f2 x.f3 g hl)
end Go.Proofs.YtpbkdeelkpjccaaDoor.G

namespace Go.Proofs.YtpbkdeelkpjccaaDoor.G
open Go.RowKit Go.Proofs.YtpbkdeelkpjccaaDoorW.PrintWords
set_option linter.unusedVariables false
set_option linter.unusedSimpArgs false
def Sets (n : Nat) (S : List (List Nat)) : Prop := S.length = n ∧ ∀ x ∈ S, OkW x
theorem Sets.get {n : Nat} {S : List (List Nat)} (h : Sets n S) {k : Nat} (hk : k < n) : OkW (S.getD k []) := by
  rw [getD_lt _ _ (by rw [h.1]; exact hk)]; exact h.2 _ (List.getElem_mem _)
theorem Sets.set {n : Nat} {S : List (List Nat)} (h : Sets n S) (k : Nat) {u : List Nat} (hu : OkW u) : Sets n (S.set k u) := by
  refine ⟨by rw [List.length_set]; exact h.1, fun x hx => ?_⟩
  rcases List.mem_or_eq_of_mem_set hx with hx | rfl
  · exact h.2 x hx
  · exact hu
theorem flat_get : ∀ (S : List (List Nat)), (∀ x ∈ S, OkW x) → ∀ (k j : Nat), k < S.length → j < 8 → S.flatten[k * 8 + j]? = (S.getD k [])[j]?
  | [], _, k, j, hk, _ => absurd hk (Nat.not_lt_zero _)
  | x :: S, h, 0, j, _, hj => by
    rw [List.flatten_cons, Nat.zero_mul, Nat.zero_add, List.getElem?_append_left (by rw [(h x List.mem_cons_self).len]; exact hj)]
    rfl
  | x :: S, h, k + 1, j, hk, hj => by
    have hx := (h x List.mem_cons_self).len
    rw [List.flatten_cons, List.getElem?_append_right (by rw [hx]; omega), hx, show (k + 1) * 8 + j - 8 = k * 8 + j by omega]
    exact flat_get S (fun y hy => h y (List.mem_cons_of_mem _ hy)) k j (by simpa using hk) hj
theorem flat_len : ∀ (S : List (List Nat)), (∀ x ∈ S, OkW x) → S.flatten.length = S.length * 8
  | [], _ => rfl
  | x :: S, h => by
    rw [List.flatten_cons, List.length_append, (h x List.mem_cons_self).len, flat_len S (fun y hy => h y (List.mem_cons_of_mem _ hy)), List.length_cons]; omega
theorem flat_cell {n : Nat} {S : List (List Nat)} (h : Sets n S) {k j : Nat} (hk : k < n) (hj : j < 8) : (setCells S.flatten)[k * 8 + j]? = some (wordV ((S.getD k []).getD j 0)) := by
  have hl := (h.get hk).len
  have := flat_get S h.2 k j (by rw [h.1]; exact hk) hj
  unfold setCells
  generalize S.getD k [] = x at hl this ⊢
  rw [List.getElem?_toArray, List.getElem?_map, this, List.getElem?_eq_getElem (by omega), getD_lt x 0 (show j < x.length by omega)]
  rfl
theorem flat_set : ∀ (S : List (List Nat)), (∀ x ∈ S, OkW x) → ∀ (k : Nat) (u : List Nat), k < S.length → u.length = 8 → (S.set k u).flatten = S.flatten.take (k * 8) ++ u ++ S.flatten.drop (k * 8 + 8)
  | [], _, k, u, hk, _ => absurd hk (Nat.not_lt_zero _)
  | x :: S, h, 0, u, _, hu => by
    have hx := (h x List.mem_cons_self).len
    simp [List.flatten_cons, List.drop_append, hx]
  | x :: S, h, k + 1, u, hk, hu => by
    have hx := (h x List.mem_cons_self).len
    rw [List.set_cons_succ, List.flatten_cons, flat_set S (fun y hy => h y (List.mem_cons_of_mem _ hy)) k u (by simpa using hk) hu, List.flatten_cons]
    rw [List.take_append, List.drop_append, List.take_of_length_le (l := x) (by omega), (List.drop_eq_nil_iff (l := x)).2 (by omega), hx, show (k + 1) * 8 - 8 = k * 8 by omega, show (k + 1) * 8 + 8 - 8 = k * 8 + 8 by omega]
    simp
def zb (x : Nat) : Nat := (List.range 64).countP fun j => !x.testBit j
def zws (ws : List Nat) : Nat := (ws.map zb).sum
def zsum (S : List (List Nat)) : Nat := (S.map zws).sum
theorem countP_le {α : Type} {p q : α → Bool} : ∀ (l : List α), (∀ x ∈ l, p x = true → q x = true) → l.countP p ≤ l.countP q
  | [], _ => Nat.le_refl _
  | x :: l, h => by
    have ih := countP_le l (fun y hy => h y (List.mem_cons_of_mem _ hy))
    have hx := h x List.mem_cons_self
    rw [List.countP_cons, List.countP_cons]
    cases hp : p x <;> cases hq : q x <;> simp_all <;> omega
theorem countP_lt' {α : Type} {p q : α → Bool} : ∀ (l : List α), (∀ x ∈ l, p x = true → q x = true) → ∀ a ∈ l, q a = true → p a = false → l.countP p < l.countP q
  | [], _, a, ha, _, _ => by cases ha
  | x :: l, h, a, ha, hqa, hpa => by
    have hx := h x List.mem_cons_self
    rw [List.countP_cons, List.countP_cons]
    rcases List.mem_cons.1 ha with rfl | ha
    · have ih := countP_le l (fun y hy => h y (List.mem_cons_of_mem _ hy))
      rw [hqa, hpa]; simp; omega
    · have ih := countP_lt' l (fun y hy => h y (List.mem_cons_of_mem _ hy)) a ha hqa hpa
      cases hp : p x <;> cases hq : q x <;> simp_all <;> omega
theorem zb_le (x y : Nat) : zb (x ||| y) ≤ zb x := countP_le _ (fun j _ h => by
  simp only [Bool.not_eq_true', Nat.testBit_or, Bool.or_eq_false_iff] at h ⊢; exact h.1)
theorem zb_lt {x y : Nat} (hx : x < 18446744073709551616) (hy : y < 18446744073709551616) (h : x ||| y ≠ x) : zb (x ||| y) < zb x := by
  have ⟨j, hj⟩ : ∃ j, (x ||| y).testBit j ≠ x.testBit j := by
    apply Classical.byContradiction
    intro hn
    exact h (Nat.eq_of_testBit_eq fun j => Classical.byContradiction fun hne => hn ⟨j, hne⟩)
  rw [Nat.testBit_or] at hj
  have hx0 : x.testBit j = false := by cases hb : x.testBit j <;> simp_all
  have hy1 : y.testBit j = true := by cases hb : y.testBit j <;> simp_all
  have hj64 : j < 64 := by
    apply Classical.byContradiction
    intro hn
    have : y < 2 ^ j := Nat.lt_of_lt_of_le hy (show 2 ^ 64 ≤ 2 ^ j from Nat.pow_le_pow_right (by decide) (by omega))
    rw [Nat.testBit_lt_two_pow this] at hy1
    cases hy1
  refine countP_lt' _ (fun i _ h => ?_) j (List.mem_range.2 hj64) (by rw [hx0]; rfl) (by rw [Nat.testBit_or, hy1]; simp)
  simp only [Bool.not_eq_true', Nat.testBit_or, Bool.or_eq_false_iff] at h ⊢
  exact h.1
theorem zb_top (x : Nat) : zb x ≤ 64 := by
  unfold zb; exact Nat.le_trans List.countP_le_length (by simp)
theorem sum_lt : ∀ (l m : List Nat), l.length = m.length → (∀ i, i < l.length → l.getD i 0 ≤ m.getD i 0) → (∃ i, i < l.length ∧ l.getD i 0 < m.getD i 0) → l.sum < m.sum
  | [], [], _, _, ⟨i, h, _⟩ => absurd h (Nat.not_lt_zero _)
  | [], _ :: _, h, _, _ => by cases h
  | _ :: _, [], h, _, _ => by cases h
  | x :: l, y :: m, hl, hle, ⟨i, hi, hlt⟩ => by
    have le_all : ∀ (l m : List Nat), l.length = m.length → (∀ i, i < l.length → l.getD i 0 ≤ m.getD i 0) → l.sum ≤ m.sum := by
      intro l
      induction l with
      | nil => intro m _ _; simp
      | cons x l ih =>
        intro m hl hle
        cases m with
        | nil => cases hl
        | cons y m =>
          have h0 := hle 0 (by simp)
          have h1 := ih m (by simpa using hl) (fun i hi => by have := hle (i + 1) (by simpa using hi); simpa using this)
          simp only [List.getD_cons_zero] at h0
          simp only [List.sum_cons]; omega
    have h0 := hle 0 (by simp)
    simp only [List.getD_cons_zero] at h0
    have hle' : ∀ i, i < l.length → l.getD i 0 ≤ m.getD i 0 := fun i hi => by have := hle (i + 1) (by simpa using hi); simpa using this
    simp only [List.sum_cons]
    cases i with
    | zero =>
      simp only [List.getD_cons_zero] at hlt
      have := le_all l m (by simpa using hl) hle'
      omega
    | succ i =>
      have := sum_lt l m (by simpa using hl) hle' ⟨i, by simpa using hi, by simpa using hlt⟩
      omega
theorem zws_lt {a b : List Nat} (ha : OkW a) (hb : OkW b) (h : unionW a b ≠ a) : zws (unionW a b) < zws a := by
  have hu : (unionW a b).length = 8 := by simp [unionW]
  have get : ∀ i, i < 8 → (unionW a b).getD i 0 = a.getD i 0 ||| b.getD i 0 := fun i hi => by
    rw [getD_lt _ _ (by rw [hu]; exact hi)]; simp [unionW]
  have mget : ∀ (l : List Nat) i, i < l.length → (l.map zb).getD i 0 = zb (l.getD i 0) := fun l i hi => by
    rw [getD_lt _ _ (by simpa using hi), getD_lt _ _ hi]; simp
  unfold zws
  refine sum_lt _ _ (by simp [hu, ha.len]) (fun i hi => ?_) ?_
  · have hi8 : i < 8 := by simpa [hu] using hi
    rw [mget _ _ (by rw [hu]; exact hi8), mget _ _ (by rw [ha.len]; exact hi8), get i hi8]
    exact zb_le _ _
  · have ⟨i, hi8, hne⟩ : ∃ i, i < 8 ∧ a.getD i 0 ||| b.getD i 0 ≠ a.getD i 0 := by
      apply Classical.byContradiction
      intro hn
      apply h
      apply List.ext_getElem
      · rw [hu, ha.len]
      · intro i h1 h2
        have hi8 : i < 8 := by omega
        have := get i hi8
        rw [getD_lt _ _ h1] at this
        rw [this, ← getD_lt _ 0 h2]
        exact Classical.byContradiction fun hne => hn ⟨i, hi8, hne⟩
    refine ⟨i, by simpa [hu] using hi8, ?_⟩
    rw [mget _ _ (by rw [hu]; exact hi8), mget _ _ (by rw [ha.len]; exact hi8), get i hi8]
    exact zb_lt (ha.getD i) (hb.getD i) hne
theorem zsum_set {n : Nat} {S : List (List Nat)} (h : Sets n S) {k : Nat} (hk : k < n) {u : List Nat} (hu : zws u < zws (S.getD k [])) : zsum (S.set k u) < zsum S := by
  have hkl : k < S.length := by rw [h.1]; exact hk
  unfold zsum
  refine sum_lt _ _ (by simp) (fun i hi => ?_) ⟨k, by simpa using hkl, ?_⟩
  · have hi' : i < S.length := by simpa using hi
    rw [getD_lt _ _ (by simpa using hi'), getD_lt _ _ (by simpa using hi')]
    simp only [List.getElem_map, List.getElem_set]
    split
    · rename_i e; subst e; rw [getD_lt _ _ hkl] at hu; omega
    · exact Nat.le_refl _
  · rw [getD_lt _ _ (by simpa using hkl), getD_lt _ _ (by simpa using hkl)]
    simp only [List.getElem_map, List.getElem_set_self]
    rw [getD_lt _ _ hkl] at hu
    exact hu
theorem sum_top (b : Nat) : ∀ (l : List Nat), (∀ x ∈ l, x ≤ b) → l.sum ≤ l.length * b
  | [], _ => by simp
  | x :: l, h => by
    have h1 := h x List.mem_cons_self
    have h2 := sum_top b l (fun y hy => h y (List.mem_cons_of_mem _ hy))
    rw [List.sum_cons, List.length_cons, Nat.succ_mul]; omega
theorem zsum_top {n : Nat} {S : List (List Nat)} (h : Sets n S) : zsum S ≤ n * 512 := by
  unfold zsum
  have := sum_top 512 (S.map zws) (fun x hx => by
    obtain ⟨ws, hws, rfl⟩ := List.mem_map.1 hx
    have h1 := sum_top 64 (ws.map zb) (fun y hy => by obtain ⟨z, _, rfl⟩ := List.mem_map.1 hy; exact zb_top z)
    rw [List.length_map, (h.2 ws hws).len] at h1
    exact h1)
  rw [List.length_map, h.1] at this
  exact this
def stateTell (g : List S34) (pl : List (Int × S71)) (S : List (List Nat)) (a k : Int) (p : Nat) : Option (List (List Nat)) :=
  if (rd_T34 g a).f0 = 2 ∧ p % 2 = 0 then none
  else if unionW (S.getD k.toNat []) (nfaStep pl (S.getD a.toNat []) ((stepsL (rd_T34 g a).f0 (rd_T34 g a).f3 g).getD p ⟨#[]⟩)) = S.getD k.toNat [] then none
  else some (S.set k.toNat (unionW (S.getD k.toNat []) (nfaStep pl (S.getD a.toNat []) ((stepsL (rd_T34 g a).f0 (rd_T34 g a).f3 g).getD p ⟨#[]⟩))))
end Go.Proofs.YtpbkdeelkpjccaaDoor.G

namespace Go.Proofs.YtpbkdeelkpjccaaDoor.G
open Go.RowKit Go.Proofs.YtpbkdeelkpjccaaDoorW.PrintWords Go.Maps Go.MapKept Go.WideElems Go.ChangeMaps
set_option linter.unusedVariables false
set_option linter.unusedSimpArgs false
structure MapIs (P : Program) (k : TypeId) (w : World) (b n : Nat) (cnt : Value → Option Int) (es : Array MapEntry) (clock : Nat) : Prop where
  blk : w.heap[b]? = some (.map es clock)
  stamped : Stamped es clock
  keys : ∀ e ∈ es.toList, ∃ l, keyOf P k e.key = some l
  size : es.size ≤ n
  vals : ∀ e ∈ es.toList, ∃ c, e.val = .int .i64 c ∧ cnt e.key = some c
  all : ∀ key c, cnt key = some c → ∃ e ∈ es.toList, e.key = key
def HasMap (P : Program) (k : TypeId) (w : World) (b n : Nat) (cnt : Value → Option Int) : Prop := ∃ es clock, MapIs P k w b n cnt es clock
variable {P : Program} {k e t : TypeId} {w w' : World} {b n : Nat} {cnt : Value → Option Int}
theorem HasMap.made (w : World) (P : Program) (k : TypeId) : HasMap P k (w.alloc (.map #[] 0)) w.heap.size 0 (fun _ => none) :=
  ⟨#[], 0, (MapKept.heap_alloc w _).1, stamped_empty 0, by simp, Nat.le_refl _, by simp, by simp⟩
theorem HasMap.mono (h : HasMap P k w b n cnt) {n' : Nat} (hn : n ≤ n') : HasMap P k w b n' cnt := by
  obtain ⟨es, clock, h⟩ := h
  exact ⟨es, clock, h.blk, h.stamped, h.keys, Nat.le_trans h.size hn, h.vals, h.all⟩
theorem HasMap.lt (h : HasMap P k w b n cnt) : b < w.heap.size := by
  obtain ⟨es, clock, h⟩ := h
  exact (Array.getElem?_eq_some_iff.1 h.blk).1
theorem HasMap.block (h : HasMap P k w b n cnt) (hb : w'.heap[b]? = w.heap[b]?) : HasMap P k w' b n cnt := by
  obtain ⟨es, clock, h⟩ := h
  exact ⟨es, clock, hb.trans h.blk, h.stamped, h.keys, h.size, h.vals, h.all⟩
theorem HasMap.kept {row : Option Nat} (h : HasMap P k w b n cnt) (hg : w.grownBy w' row) (hne : some b ≠ row) : HasMap P k w' b n cnt := h.block (hg.block b h.lt hne)
theorem HasMap.below (h : HasMap P k w b n cnt) (hb : Below w.heap.size w w') : HasMap P k w' b n cnt := h.block (hb.block b h.lt)
theorem HasMap.alloc (h : HasMap P k w b n cnt) (o : Obj) : HasMap P k (w.alloc o) b n cnt := h.below (below_alloc (Below.refl _ _) o)
theorem HasMap.drew (h : HasMap P k w b n cnt) : HasMap P k w.drew b n cnt := h.below (below_drew (Below.refl _ _))
theorem HasMap.drewN (h : HasMap P k w b n cnt) (m : Nat) : HasMap P k (w.drewN m) b n cnt := h.below (pw_below_drewN (Below.refl _ _) m)
theorem HasMap.setCell (h : HasMap P k w b n cnt) (p : Addr) (v : Value) (hp : p.block ≠ b) : HasMap P k (w.setCell p v) b n cnt := h.block (Below.heap_setCell w p v b (fun e => hp e.symm))
theorem HasMap.look (h : HasMap P k w b n cnt) (K : Keyed P k) (ht : P.underlying t = some (.map k e)) (hz : (zeroValue e).run P w = .ok (.int .i64 0) w) {key : Value} {kl : Lit} (hkey : keyOf P k key = some kl) :
    (Instr.lookup t (.map (some b)) key false).run P w = .ok (.int .i64 ((cnt key).getD 0)) w := by
  obtain ⟨es, clock, h⟩ := h
  rcases K.find w hkey es.toList h.keys with ⟨h1, h2⟩ | ⟨j, e0, h1, h2, h3⟩
  · have hc : cnt key = none := by
      cases hc : cnt key with
      | none => rfl
      | some c => obtain ⟨x, hx, hk⟩ := h.all key c hc; exact absurd hk (h2 x hx)
    rw [hc]
    simp [Instr.lookup, run_underlying ht, MapKept.run_getObj_map h.blk, K.check w es.isEmpty hkey, h1, hz, Result.andThen]
  · obtain ⟨c, hv, hc⟩ := h.vals e0 (List.mem_of_getElem? h2)
    rw [h3] at hc
    rw [hc]
    simp [Instr.lookup, run_underlying ht, MapKept.run_getObj_map h.blk, K.check w es.isEmpty hkey, h1, Result.andThen, hv]
open Classical in
noncomputable def upd (cnt : Value → Option Int) (key : Value) (v : Int) : Value → Option Int := fun x => if x = key then some v else cnt x
theorem upd_same (cnt : Value → Option Int) (key : Value) (v : Int) : upd cnt key v key = some v := by unfold upd; rw [if_pos rfl]
theorem upd_other (cnt : Value → Option Int) {key x : Value} (v : Int) (h : x ≠ key) : upd cnt key v x = cnt x := by unfold upd; rw [if_neg h]
theorem setBlock_grown {w : World} {b : Nat} {es : Array MapEntry} {clock : Nat} (hb : w.heap[b]? = some (.map es clock)) (o : Obj) : w.grownBy (setBlock w b o) (some b) :=
  ⟨rfl, rfl, rfl, by simp [setBlock], fun i _ hi => heap_setBlock_other hb _ (fun e => hi (by rw [e]))⟩
theorem mapIs_push {es : Array MapEntry} {clock : Nat} (h : MapIs P k w b n cnt es clock) {key : Value} {kl : Lit} (hkey : keyOf P k key = some kl) (hno : ∀ x ∈ es.toList, x.key ≠ key) (v : Int) (hb : w'.heap[b]? = some (.map (es.push ⟨key, .int .i64 v, clock⟩) (clock + 1))) :
    MapIs P k w' b (n + 1) (upd cnt key v) (es.push ⟨key, .int .i64 v, clock⟩) (clock + 1) where
  blk := hb
  stamped := stamped_push h.stamped hno
  keys := by
    intro x hx
    rw [Array.toList_push, List.mem_append, List.mem_singleton] at hx
    rcases hx with hx | rfl
    · exact h.keys x hx
    · exact ⟨kl, hkey⟩
  size := by rw [Array.size_push]; have := h.size; omega
  vals := by
    intro x hx
    rw [Array.toList_push, List.mem_append, List.mem_singleton] at hx
    rcases hx with hx | rfl
    · obtain ⟨c, h1, h2⟩ := h.vals x hx
      exact ⟨c, h1, by rw [upd_other _ _ (hno x hx)]; exact h2⟩
    · exact ⟨v, rfl, upd_same _ _ _⟩
  all := by
    intro x c hx
    by_cases e : x = key
    · subst e
      exact ⟨_, by rw [Array.toList_push]; exact List.mem_append_right _ (List.mem_singleton.2 rfl), rfl⟩
    · rw [upd_other _ _ e] at hx
      obtain ⟨y, hy, hk⟩ := h.all x c hx
      exact ⟨y, by rw [Array.toList_push]; exact List.mem_append_left _ hy, hk⟩
theorem mapIs_modify {es : Array MapEntry} {clock : Nat} (h : MapIs P k w b n cnt es clock) {key : Value} {kl : Lit} (hkey : keyOf P k key = some kl) {j : Nat} {e0 : MapEntry} (hj : es.toList[j]? = some e0) (hk0 : e0.key = key) (v : Int) (hb : w'.heap[b]? = some (.map (es.modify j (fun e' => { e' with key := key, val := .int .i64 v })) clock)) :
    MapIs P k w' b (n + 1) (upd cnt key v) (es.modify j (fun e' => { e' with key := key, val := .int .i64 v })) clock := by
  have hmem : ∀ x, x ∈ (es.modify j (fun e' => { e' with key := key, val := .int .i64 v })).toList → (x.key = key ∧ x.val = .int .i64 v) ∨ (x ∈ es.toList ∧ x.key ≠ key) := by
    intro x hx
    rw [Array.toList_modify] at hx
    obtain ⟨i, hi, hxi⟩ := List.getElem_of_mem hx
    rw [List.getElem_modify] at hxi
    split at hxi
    · subst hxi; exact .inl ⟨rfl, rfl⟩
    · rename_i hne
      have hi' : i < es.toList.length := by rw [List.length_modify] at hi; exact hi
      refine .inr ⟨by rw [← hxi]; exact List.getElem_mem hi', ?_⟩
      intro hk
      have hp := ((stamped_iff es clock).1 h.stamped).2.2
      obtain ⟨hj1, hj2⟩ := List.getElem?_eq_some_iff.1 hj
      rw [List.pairwise_iff_getElem] at hp
      rcases Nat.lt_or_gt_of_ne hne with hlt | hgt
      · exact hp j i hj1 hi' hlt (by rw [hj2, hxi, hk0, hk])
      · exact hp i j hi' hj1 hgt (by rw [hj2, hxi, hk0, hk])
  exact {
    blk := hb
    stamped := stamped_modify h.stamped j _ (fun _ _ => rfl) (fun x _ hx => by
      have : x = e0 := by rw [← Array.getElem?_toList] at hx; rw [hj] at hx; exact (Option.some.inj hx).symm
      rw [this, hk0])
    keys := fun x hx => by
      rcases hmem x hx with ⟨h1, _⟩ | ⟨h1, _⟩
      · exact ⟨kl, by rw [h1]; exact hkey⟩
      · exact h.keys x h1
    size := by rw [Array.size_modify]; exact Nat.le_succ_of_le h.size
    vals := fun x hx => by
      rcases hmem x hx with ⟨h1, h2⟩ | ⟨h1, h2⟩
      · exact ⟨v, h2, by rw [h1]; exact upd_same _ _ _⟩
      · obtain ⟨c, h3, h4⟩ := h.vals x h1
        exact ⟨c, h3, by rw [upd_other _ _ h2]; exact h4⟩
    all := fun x c hx => by
      have hmk : ∀ y ∈ es.toList, ∃ z ∈ (es.modify j (fun e' => { e' with key := key, val := .int .i64 v })).toList, z.key = y.key := by
        intro y hy
        obtain ⟨i, hi, hyi⟩ := List.getElem_of_mem hy
        have hi' : i < (es.modify j (fun e' => { e' with key := key, val := .int .i64 v })).toList.length := by rw [Array.toList_modify, List.length_modify]; exact hi
        refine ⟨_, List.getElem_mem hi', ?_⟩
        simp only [Array.toList_modify, List.getElem_modify]
        split
        · rename_i hji
          subst hji
          obtain ⟨_, hj2⟩ := List.getElem?_eq_some_iff.1 hj
          rw [← hyi, hj2, hk0]
        · rw [hyi]
      by_cases e : x = key
      · subst e
        obtain ⟨z, hz, hzk⟩ := hmk e0 (List.mem_of_getElem? hj)
        exact ⟨z, hz, hzk.trans hk0⟩
      · rw [upd_other _ _ e] at hx
        obtain ⟨y, hy, hk⟩ := h.all x c hx
        obtain ⟨z, hz, hzk⟩ := hmk y hy
        exact ⟨z, hz, hzk.trans hk⟩ }
theorem HasMap.update (h : HasMap P k w b n cnt) (K : Keyed P k) (ht : P.underlying t = some (.map k e)) {key : Value} {kl : Lit} (hkey : keyOf P k key = some kl) (v : Int) :
    ∃ w', (Instr.mapUpdate t (.map (some b)) key (.int .i64 v)).run P w = .ok () w' ∧ HasMap P k w' b (n + 1) (upd cnt key v) ∧ w.grownBy w' (some b) := by
  obtain ⟨es, clock, h⟩ := h
  rcases K.find w hkey es.toList h.keys with ⟨h1, h2⟩ | ⟨j, e0, h1, h2, h3⟩
  · refine ⟨setBlock w b (.map (es.push ⟨key, .int .i64 v, clock⟩) (clock + 1)), ?_, ⟨_, _, mapIs_push h hkey h2 v (heap_setBlock_same h.blk _)⟩, setBlock_grown h.blk _⟩
    simp [Instr.mapUpdate, run_underlying ht, MapKept.run_getObj_map h.blk, K.check w false hkey, h1, MapKept.run_setObj_map _ h.blk, Result.andThen, setBlock]
  · have hj : es[j]? = some e0 := by simpa using h2
    refine ⟨setBlock w b (.map (es.modify j (fun e' => { e' with key := key, val := .int .i64 v })) clock), ?_, ⟨_, _, mapIs_modify h hkey h2 h3 v (heap_setBlock_same h.blk _)⟩, setBlock_grown h.blk _⟩
    simp [Instr.mapUpdate, run_underlying ht, MapKept.run_getObj_map h.blk, K.check w false hkey, h1, hj, h3, K.stays w hkey, MapKept.run_setObj_map _ h.blk, Result.andThen, setBlock]
theorem HasMap.entry (h : HasMap P k w b n cnt) (K : Keyed P k) (ht : P.underlying t = some (.map k e)) (hz : ∀ u : World, (zeroValue e).run P u = .ok (.int .i64 0) u) {key : Value} {kl : Lit} (hkey : keyOf P k key = some kl) :
    ∃ (st : Nat) (w1 : World), (Instr.mapEntry t (.map (some b)) key).run P w = .ok (.tuple #[.int .i64 ((cnt key).getD 0), goInt st]) w1 ∧ w.grownBy w1 (some b) ∧
      (Instr.lookup t (.map (some b)) key false).run P w1 = .ok (.int .i64 ((cnt key).getD 0)) w1 ∧
      ∀ v : Int, ∃ w2, (Instr.entryStore t (.map (some b)) (goInt st) (.int .i64 v)).run P w1 = .ok () w2 ∧ HasMap P k w2 b (n + 1) (upd cnt key v) ∧ w.grownBy w2 (some b) := by
  obtain ⟨es, clock, h⟩ := h
  obtain ⟨s1, s2, _⟩ := (stamped_iff es clock).1 h.stamped
  rcases K.find w hkey es.toList h.keys with ⟨h1, h2⟩ | ⟨j, e0, h1, h2, h3⟩
  · have hc : cnt key = none := by
      cases hc : cnt key with
      | none => rfl
      | some c => obtain ⟨x, hx, hk⟩ := h.all key c hc; exact absurd hk (h2 x hx)
    have hb1 : (setBlock w b (.map (es.push ⟨key, .int .i64 0, clock⟩) (clock + 1))).heap[b]? = _ := heap_setBlock_same h.blk _
    have hm1 := mapIs_push (w' := setBlock w b (.map (es.push ⟨key, .int .i64 0, clock⟩) (clock + 1))) h hkey h2 0 hb1
    refine ⟨clock, setBlock w b (.map (es.push ⟨key, .int .i64 0, clock⟩) (clock + 1)), ?_, setBlock_grown h.blk _, ?_, fun v => ?_⟩
    · rw [hc]
      simp [Instr.mapEntry, run_underlying ht, MapKept.run_getObj_map h.blk, K.check w false hkey, h1, hz, MapKept.run_setObj_map _ h.blk, Result.andThen, setBlock]
    · rw [hc]
      have := (show HasMap P k _ b (n + 1) _ from ⟨_, _, hm1⟩).look K ht (hz _) hkey
      rw [upd_same] at this
      exact this
    · refine ⟨setBlock (setBlock w b (.map (es.push ⟨key, .int .i64 0, clock⟩) (clock + 1))) b (.map (es.push ⟨key, .int .i64 v, clock⟩) (clock + 1)), ?_, ⟨_, _, mapIs_push h hkey h2 v (heap_setBlock_same hb1 _)⟩, (setBlock_grown h.blk _).trans (setBlock_grown hb1 _)⟩
      have hidx : (es.push ⟨key, .int .i64 0, clock⟩).findIdx? (fun e => ((e.born : Nat) : Int) == ((clock : Nat) : Int)) = some es.size := by
        rw [findIdx_arr]
        have := findIdx_born (l := (es.push ⟨key, .int .i64 0, clock⟩).toList) (j := es.size) (e0 := ⟨key, .int .i64 0, clock⟩) ((stamped_iff _ _).1 (stamped_push h.stamped h2)).2.1 (by simp)
        exact this
      have hmod : (es.push ⟨key, .int .i64 0, clock⟩).modify es.size (fun e => { e with val := .int .i64 v }) = es.push ⟨key, .int .i64 v, clock⟩ := by
        apply Array.ext'
        rw [Array.toList_modify, Array.toList_push, Array.toList_push, ← Array.length_toList, modify_last]
      generalize setBlock w b (.map (es.push ⟨key, .int .i64 0, clock⟩) (clock + 1)) = w1 at hb1
      simp [Instr.entryStore, MapKept.run_getObj_map hb1, asInt, asIntOf, goInt, hidx, hmod, MapKept.run_setObj_map _ hb1, Result.andThen, setBlock]
  · have hj : es[j]? = some e0 := by simpa using h2
    obtain ⟨c, hv, hc⟩ := h.vals e0 (List.mem_of_getElem? h2)
    rw [h3] at hc
    have hsame : es.modify j (fun e => { e with key := key }) = es := by
      apply Array.ext'
      rw [Array.toList_modify, modify_eq_set _ _ _ _ h2]
      have : ({ e0 with key := key } : MapEntry) = e0 := by rw [← h3]
      rw [this]
      exact set_self _ _ _ h2
    have hb1 : (setBlock w b (.map es clock)).heap[b]? = _ := heap_setBlock_same h.blk _
    refine ⟨e0.born, setBlock w b (.map es clock), ?_, setBlock_grown h.blk _, ?_, fun v => ?_⟩
    · rw [hc]
      simp [Instr.mapEntry, run_underlying ht, MapKept.run_getObj_map h.blk, K.check w false hkey, h1, hj, h3, K.stays w hkey, hsame, MapKept.run_setObj_map _ h.blk, Result.andThen, setBlock, hv]
    · have hm1 : HasMap P k (setBlock w b (.map es clock)) b n cnt := ⟨es, clock, hb1, h.stamped, h.keys, h.size, h.vals, h.all⟩
      exact hm1.look K ht (hz _) hkey
    · refine ⟨setBlock (setBlock w b (.map es clock)) b (.map (es.modify j (fun e' => { e' with key := key, val := .int .i64 v })) clock), ?_, ⟨_, _, mapIs_modify h hkey h2 h3 v (heap_setBlock_same hb1 _)⟩, (setBlock_grown h.blk _).trans (setBlock_grown hb1 _)⟩
      have hidx : es.findIdx? (fun e => ((e.born : Nat) : Int) == ((e0.born : Nat) : Int)) = some j := by
        rw [findIdx_arr]
        exact findIdx_born s2 h2
      have hmod : es.modify j (fun e => { e with val := .int .i64 v }) = es.modify j (fun e' => { e' with key := key, val := .int .i64 v }) := by
        apply Array.ext'
        rw [Array.toList_modify, Array.toList_modify, modify_eq_set _ _ _ _ h2, modify_eq_set _ _ _ _ h2, ← h3]
      generalize setBlock w b (.map es clock) = w1 at hb1
      simp [Instr.entryStore, MapKept.run_getObj_map hb1, asInt, asIntOf, goInt, hidx, hmod, MapKept.run_setObj_map _ hb1, Result.andThen, setBlock]
section
variable {ops : Array Oper} {rest : List Oper} {o : Oper} {a : Act} {Q : Exit → Act → World → Prop}
theorem wpList_look (hg : o.guard = none) (m x : Operand) (t : TypeId) (hop : o.op = Op.lookup t m x false) (k e : TypeId) (K : Keyed P k) (ht : P.underlying t = some (.map k e)) (hz : (zeroValue e).run P w = .ok (.int .i64 0) w) (b n : Nat) (cnt : Value → Option Int)
    (hm : a.eval m = .map (some b)) (hown : HasMap P k w b n cnt) (key : Value) (kl : Lit) (hx : a.eval x = key) (hkey : keyOf P k key = some kl) (hK : wpList P ops Q rest (a.put o.dst (.int .i64 ((cnt key).getD 0))) w) :
    wpList P ops Q (o :: rest) a w := by
  refine wpList_plain hg fun K' hK' => ?_
  have hrun := hown.look K ht hz hkey
  unfold Oper.wp
  simp [execOp, hop, hm, hx, hrun, Result.andThen]
  exact hK' _ _ hK
theorem wpList_upd (hg : o.guard = none) (m x v : Operand) (t : TypeId) (hop : o.op = Op.mapUpdate t m x v) (k e : TypeId) (K : Keyed P k) (ht : P.underlying t = some (.map k e)) (b n : Nat) (cnt : Value → Option Int)
    (hm : a.eval m = .map (some b)) (hown : HasMap P k w b n cnt) (key : Value) (c : Int) (kl : Lit) (hx : a.eval x = key) (hv : a.eval v = .int .i64 c) (hkey : keyOf P k key = some kl)
    (hK : ∀ w', HasMap P k w' b (n + 1) (upd cnt key c) → w.grownBy w' (some b) → wpList P ops Q rest (a.put o.dst undef) w') :
    wpList P ops Q (o :: rest) a w := by
  refine wpList_plain hg fun K' hK' => ?_
  obtain ⟨w', hrun, r1, r2⟩ := hown.update K ht hkey c
  unfold Oper.wp
  simp [execOp, hop, hm, hx, hv, hrun, Result.andThen]
  exact hK' _ _ (hK w' r1 r2)
end
end Go.Proofs.YtpbkdeelkpjccaaDoor.G

namespace Go.Proofs.YtpbkdeelkpjccaaDoor.G
open Go.RowKit Go.Proofs.YtpbkdeelkpjccaaDoorW.PrintWords Go.Maps
set_option linter.unusedVariables false
set_option linter.unusedSimpArgs false
theorem laidOut : laidOutB Tryd.prog = true := by kernel_rfl
theorem keyedInt : Keyed Tryd.prog 3 := int_keyed Tryd.underlying3
theorem rowLeaf : (116 : TypeId) < Tryd.prog.types.size := of_decide_eq_true (by kernel_rfl)
theorem wideLeaf : (match Tryd.prog.underlying 116 with | some (.array _ _) | some (.struct _) => true | _ => false) = true := by kernel_rfl
set_option maxRecDepth 100000 in
theorem keyedLeaf : Keyed Tryd.prog 116 := Keyed.of_law (deep_law_laid laidOut (m := 2) (by omega) rowLeaf (by kernel_rfl) wideLeaf)
theorem zeroInt (w : World) : (zeroValue 3).run Tryd.prog w = .ok (.int .i64 0) w := by kernel_rfl
theorem keyInt (i : Int) (h0 : 0 ≤ i) (h1 : i ≤ 9223372036854775807) : keyOf Tryd.prog 3 (.int .i64 i) = some (.int .i64 i) :=
  keyOf_int_mk Tryd.underlying3 (WalkArith.wf_i64 (by omega))
theorem leafCells : Tryd.prog.cellsOf 116 = 2 := by kernel_rfl
theorem strCells : Tryd.prog.cellsOf 9 = 1 := by kernel_rfl
theorem leafKey : Tryd.prog.keyType 116 = true := by kernel_rfl
set_option maxRecDepth 100000 in
theorem typesSize : ∃ m, Tryd.prog.types.size = m + 1 := Nat.exists_eq_succ_of_ne_zero (fun h => Nat.not_lt_zero _ (h ▸ rowLeaf))
def leafV (a b : ByteArray) : Value := .agg #[.string a, .string b]
theorem keyLeaf (a b : ByteArray) (ha : a.size ≤ maxLen) (hb : b.size ≤ maxLen) : ∃ l, keyOf Tryd.prog 116 (leafV a b) = some l := by
  obtain ⟨m, hm⟩ := typesSize
  refine ⟨.string (keyBytes [.string a.data.toList, .string b.data.toList]), ?_⟩
  unfold keyOf leafV
  have hu := Tryd.underlying116
  simp only [hu]
  rw [if_pos (by simp [leafKey, Value.formed, hu, leafCells]), hm]
  unfold Program.keyLits
  simp only [hu, Value.cells]
  rw [if_pos (by rw [leafCells]; exact ⟨rfl, by kernel_rfl⟩)]
  simp [strCells, Program.keyLits, Tryd.underlying9, ha, hb]
theorem leafV_inj {a b c d : ByteArray} : leafV a b = leafV c d ↔ a = c ∧ b = d := by
  unfold leafV
  constructor
  · intro h
    injection h with h
    have := congrArg Array.toList h
    simp at this
    exact this
  · rintro ⟨rfl, rfl⟩; rfl
end Go.Proofs.YtpbkdeelkpjccaaDoor.G
