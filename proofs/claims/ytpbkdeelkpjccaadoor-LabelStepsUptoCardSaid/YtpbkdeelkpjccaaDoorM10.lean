/- Merged by merge.py out of: GtagCore, Ptag, Htag, GarenaNodekeys, GarenaGraphhas, GtagFits, GtagRight. -/
import Derived.Test.YtpbkdeelkpjccaaDoorM03
import Derived.Test.YtpbkdeelkpjccaaDoorM09
import Derived.Test.YtpbkdeelkpjccaaDoorM07
import Derived.Lib.Strings
-- Laid by xprint.py (this work's own driver of the kit's printer).
namespace Go.Proofs.YtpbkdeelkpjccaaDoor.G
open Go.RowKit Go.Proofs.YtpbkdeelkpjccaaDoorW.PrintWords Go.Proofs.YtpbkdeelkpjccaaDoorW.PrintLast Go.Proofs.YtpbkdeelkpjccaaDoorW.PrintMore
attribute [local go_sem] max2_int min2_int max_two min_two max_three min_three max_four min_four   -- for this text's walks alone
set_option linter.unusedVariables false
set_option linter.unusedSimpArgs false
def tag_Core.f (a0 : ByteArray) : Option (Bool) := if a0.toList = ([115, 101, 113] : List UInt8) then (some true) else (if a0.toList = ([109, 97, 112] : List UInt8) then (some true) else (if a0.toList = ([115, 116, 114] : List UInt8) then (some true) else ((tag_plain.f a0).bind fun t1 => (some t1))))
set_option maxHeartbeats 8000000 in
set_option maxRecDepth 100000 in
theorem tag_Core.calls (a0 : ByteArray) (r : Bool) (w : World) (h : tag_Core.f a0 = some r) :
    Calls Tryd.prog 57 #[.string a0] w fun e w' => e = .returned (.bool r) ∧ Drawn0 w w' := by
  have H : (if a0.toList = ([115, 101, 113] : List UInt8) then (some true) else (if a0.toList = ([109, 97, 112] : List UInt8) then (some true) else (if a0.toList = ([115, 116, 114] : List UInt8) then (some true) else ((tag_plain.f a0).bind fun t1 => (some t1))))) = some r := h
  clear h
  by_cases c2 : a0.toList = ([115, 101, 113] : List UInt8)
  · rw [if_pos c2] at H
    have c2b0 : (a0.toList == ([115, 101, 113] : List UInt8)) = true := beq_iff_eq.mpr c2
    have c2b1 : (a0.toList != ([115, 101, 113] : List UInt8)) = false := bne_eq_false_iff_eq.mpr c2
    clear c2
    obtain rfl := Option.some.inj H
    go_enter Tryd.func57, Tryd.ntmps57
    go_wp2
    go_ret
    exact ⟨by first | rfl | (simp; done) | (simp [*]; done), by repeat (first | exact Drawn0.refl _ | apply Drawn0.step)⟩
  · rw [if_neg c2] at H
    have c2b0 : (a0.toList == ([115, 101, 113] : List UInt8)) = false := beq_eq_false_iff_ne.mpr c2
    have c2b1 : (a0.toList != ([115, 101, 113] : List UInt8)) = true := bne_iff_ne.mpr c2
    by_cases c3 : a0.toList = ([109, 97, 112] : List UInt8)
    · rw [if_pos c3] at H
      have c3b0 : (a0.toList == ([109, 97, 112] : List UInt8)) = true := beq_iff_eq.mpr c3
      have c3b1 : (a0.toList != ([109, 97, 112] : List UInt8)) = false := bne_eq_false_iff_eq.mpr c3
      clear c3
      obtain rfl := Option.some.inj H
      go_enter Tryd.func57, Tryd.ntmps57
      go_wp2
      go_ret
      exact ⟨by first | rfl | (simp; done) | (simp [*]; done), by repeat (first | exact Drawn0.refl _ | apply Drawn0.step)⟩
    · rw [if_neg c3] at H
      have c3b0 : (a0.toList == ([109, 97, 112] : List UInt8)) = false := beq_eq_false_iff_ne.mpr c3
      have c3b1 : (a0.toList != ([109, 97, 112] : List UInt8)) = true := bne_iff_ne.mpr c3
      by_cases c4 : a0.toList = ([115, 116, 114] : List UInt8)
      · rw [if_pos c4] at H
        have c4b0 : (a0.toList == ([115, 116, 114] : List UInt8)) = true := beq_iff_eq.mpr c4
        have c4b1 : (a0.toList != ([115, 116, 114] : List UInt8)) = false := bne_eq_false_iff_eq.mpr c4
        clear c4
        obtain rfl := Option.some.inj H
        go_enter Tryd.func57, Tryd.ntmps57
        go_wp2
        go_ret
        exact ⟨by first | rfl | (simp; done) | (simp [*]; done), by repeat (first | exact Drawn0.refl _ | apply Drawn0.step)⟩
      · rw [if_neg c4] at H
        have c4b0 : (a0.toList == ([115, 116, 114] : List UInt8)) = false := beq_eq_false_iff_ne.mpr c4
        have c4b1 : (a0.toList != ([115, 116, 114] : List UInt8)) = true := bne_iff_ne.mpr c4
        replace H := Option.bind_eq_some_iff.mp H
        obtain ⟨t1, A50, H⟩ := H
        replace H : (some t1) = some r := H
        have A5 := Aside0.mk A50
        clear A50
        obtain rfl := Option.some.inj H
        go_enter Tryd.func57, Tryd.ntmps57
        go_wp2_with (first | ((with_reducible refine gate_callee (f := 74) rfl ?_); refine goesL_ (some 9) rfl rfl Tryd.func74 (by kernel_rfl) rfl #[.string a0] rfl (by (try simp only [List.map_toArray, List.map_cons, List.map_nil]); first | done | rfl | (simp only [List.length_drop, List.length_take]; rfl)) ?_; (with_reducible refine (tag_plain.calls a0 t1 _ A5.out).mono ?_); rintro e w' ⟨rfl, ⟨nd, rfl⟩⟩; refine ⟨_, rfl, ?_⟩))
        go_ret
        exact ⟨by first | rfl | (simp; done) | (simp [*]; done), by repeat (first | exact Drawn0.refl _ | apply Drawn0.step)⟩
def tag_Core.Pure : Prop := ∀ (a0 : ByteArray), a0.size ≤ 140737488351232 → tag_Core.f a0 = some true
theorem tag_Core.walk (P : tag_Core.Pure) (a0 : ByteArray) (w : World) (w0 : a0.size ≤ 140737488351232) :
    Calls Tryd.prog 57 #[.string a0] w fun e w' => e = .returned (.bool true) ∧ Below w.heap.size w w' := by
  have h := P a0 w0
  refine (tag_Core.calls a0 true w h).mono ?_
  rintro e w' ⟨rfl, hd⟩
  exact ⟨rfl, hd.below⟩
end Go.Proofs.YtpbkdeelkpjccaaDoor.G

namespace Go.Proofs.YtpbkdeelkpjccaaDoor.G
open Go.RowKit Go.Proofs.YtpbkdeelkpjccaaDoorW.PrintWords
set_option linter.unusedVariables false
set_option linter.unusedSimpArgs false
theorem ba_toList (s : ByteArray) : s.toList = s.data.toList := ByteArray.toList_eq s
theorem ba_len (s : ByteArray) : s.size = s.data.toList.length := (Array.length_toList (xs := s.data)).symm
theorem ba_drop (s : ByteArray) (n : Nat) : (s.extract n s.size).data.toList = s.data.toList.drop n := by
  rw [← ba_toList, Lib.extract_toList]
  exact List.take_of_length_le (by rw [List.length_drop, ba_len]; exact Nat.le_refl _)
theorem bt_get (s : ByteArray) (i : Nat) (h : i < s.data.toList.length) : bt s (i : Int) = ((s.data.toList[i]).toNat : Int) := by
  have h' : i < s.size := by rw [ba_len]; exact h
  unfold bt
  rw [Int.toNat_natCast, dif_pos h']
  rfl
theorem w64 {x : Int} (h0 : -9223372036854775808 ≤ x) (h1 : x ≤ 9223372036854775807) : wrap64 x = x := by
  unfold wrap64; omega
def dval (c : Int) : Int := if 97 ≤ c ∧ c ≤ 102 then c - 87 else if 65 ≤ c ∧ c ≤ 70 then c - 55 else if 48 ≤ c ∧ c ≤ 57 then c - 48 else 16
theorem value_f (k : Nat) (hk : 2 ≤ k) (c : Int) (h0 : 0 ≤ c) (h1 : c ≤ 255) : tag_value.f k c = some (dval c) := by
  obtain ⟨m, rfl⟩ : ∃ m, k = m + 2 := ⟨k - 2, by omega⟩
  unfold tag_value.f
  simp only [tag_value.j0, tag_value.j1]
  rw [w64 (x := c) (by omega) (by omega)]
  unfold dval
  simp only [decide_eq_true_eq, Bool.false_eq_true, if_false]
  repeat' split
  all_goals first
    | (exfalso; omega)
    | rfl
    | (congr 1; unfold wrap64; omega)
def digs (b : Int) (l : List UInt8) : Nat := (l.takeWhile fun c => decide (dval (c.toNat : Int) < b)).length
theorem digs_le (b : Int) (l : List UInt8) : digs b l ≤ l.length := by unfold digs; exact (List.takeWhile_sublist _).length_le
theorem digits_l0 (s : ByteArray) (b : Int) (hs : s.data.toList.length ≤ 140737488355328) (d : Nat) : ∀ (k i : Nat), i ≤ s.data.toList.length → s.data.toList.length - i = d → d + 3 ≤ k →
    tag_digits.l0 k s b (i : Int) = some (s.extract (i + digs b (s.data.toList.drop i)) s.size, ((i + digs b (s.data.toList.drop i) : Nat) : Int)) := by
  have hl := ba_len s
  induction d with
  | zero =>
    intro k i hi hd hk
    obtain ⟨k, rfl⟩ : ∃ m, k = m + 1 := ⟨k - 1, by omega⟩
    have : i = s.data.toList.length := by omega
    have e0 : s.data.toList.drop i = [] := by rw [this]; simp
    simp only [tag_digits.l0]
    rw [if_neg (by omega), if_pos (by omega), if_pos (by omega), e0]
    simp [digs]
  | succ d ih =>
    intro k i hi hd hk
    obtain ⟨k, rfl⟩ : ∃ m, k = m + 1 := ⟨k - 1, by omega⟩
    have hlt : i < s.data.toList.length := by omega
    have e1 : s.data.toList.drop i = s.data.toList[i] :: s.data.toList.drop (i + 1) := List.drop_eq_getElem_cons hlt
    simp only [tag_digits.l0]
    rw [if_pos (by omega), if_pos (by omega), bt_get s i hlt, value_f k (by omega) _ (by omega) (by have := (s.data.toList[i]).toNat_lt; omega)]
    simp only [Option.bind_some]
    by_cases hv : dval ((s.data.toList[i]).toNat : Int) < b
    · rw [if_pos hv, w64 (by omega) (by omega)]
      have := ih k (i + 1) (by omega) (by omega) (by omega)
      rw [show ((i : Int) + 1) = ((i + 1 : Nat) : Int) by omega, this, e1]
      have e2 : digs b (s.data.toList[i] :: s.data.toList.drop (i + 1)) = digs b (s.data.toList.drop (i + 1)) + 1 := by
        unfold digs; rw [List.takeWhile_cons, if_pos (by simpa using hv)]; rfl
      rw [e2]
      have e3 : i + 1 + digs b (s.data.toList.drop (i + 1)) = i + (digs b (s.data.toList.drop (i + 1)) + 1) := by omega
      rw [e3]
    · rw [if_neg hv, if_pos (by omega), e1]
      have e2 : digs b (s.data.toList[i] :: s.data.toList.drop (i + 1)) = 0 := by
        unfold digs; rw [List.takeWhile_cons, if_neg (by simpa using hv)]; rfl
      rw [e2]; simp
theorem digits_f (s : ByteArray) (b : Int) (hs : s.data.toList.length ≤ 140737488355328) (k : Nat) (hk : s.data.toList.length + 3 ≤ k) :
    tag_digits.f k s b = some (s.extract (digs b s.data.toList) s.size, (digs b s.data.toList : Int)) := by
  unfold tag_digits.f
  have := digits_l0 s b hs s.data.toList.length k 0 (by omega) (by omega) hk
  simpa using this
def allL (b : Int) (l : List UInt8) : Bool := !l.isEmpty && l.all fun c => decide (dval (c.toNat : Int) < b)
theorem takeWhile_all {α : Type} (p : α → Bool) (l : List α) : (l.takeWhile p).length = l.length ↔ l.all p = true := by
  induction l with
  | nil => simp
  | cons a l ih =>
    rw [List.takeWhile_cons]
    by_cases h : p a = true
    · rw [if_pos h]; simp [h, ih]
    · rw [if_neg h]; simp [h]
theorem all_f (s : ByteArray) (b : Int) (hs : s.data.toList.length ≤ 140737488355328) (k : Nat) (hk : s.data.toList.length + 3 ≤ k) :
    tag_all.f k s b = some (allL b s.data.toList) := by
  unfold tag_all.f
  rw [digits_f s b hs k hk]
  simp only [Option.bind_some, ba_toList, ba_drop]
  have hd := digs_le b s.data.toList
  by_cases h : digs b s.data.toList = s.data.toList.length
  · have e : s.data.toList.drop (digs b s.data.toList) = [] := by rw [h]; simp
    rw [if_pos e, h]
    have ha := (takeWhile_all (fun c : UInt8 => decide (dval (c.toNat : Int) < b)) s.data.toList).1 h
    congr 1
    unfold allL
    rw [ha]
    cases s.data.toList <;> simp
  · have e : ¬ s.data.toList.drop (digs b s.data.toList) = [] := by
      intro e; apply h
      have := List.drop_eq_nil_iff.1 e
      omega
    rw [if_neg e]
    congr 1
    symm
    unfold allL
    have ha : ¬ (s.data.toList.all fun c => decide (dval (c.toNat : Int) < b)) = true := fun ha => h ((takeWhile_all _ _).2 ha)
    simp only [Bool.not_eq_true] at ha
    rw [ha, Bool.and_false]
def signL : List UInt8 → List UInt8
  | [] => []
  | c :: r => if c.toNat = 43 ∨ c.toNat = 45 then r else c :: r
theorem signL_len (l : List UInt8) : (signL l).length ≤ l.length := by
  cases l with
  | nil => simp [signL]
  | cons c r =>
    by_cases h : c.toNat = 43 ∨ c.toNat = 45
    · simp [signL, h]
    · simp [signL, h]
theorem sign_f (s : ByteArray) : ∃ r, tag_sign.f s = some r ∧ r.data.toList = signL s.data.toList := by
  unfold tag_sign.f
  have hl := ba_len s
  rw [ba_toList]
  cases h : s.data.toList with
  | nil => exact ⟨s, by simp, by rw [h]; rfl⟩
  | cons c r =>
    have hlt : 0 < s.data.toList.length := by rw [h]; simp
    have h1 : (1 : Int) ≤ (s.size : Int) := by omega
    have hb : bt s 0 = (c.toNat : Int) := by
      have := bt_get s 0 hlt
      simp only [h, List.getElem_cons_zero] at this
      exact this
    have hx : (s.extract 1 s.size).data.toList = r := by rw [ba_drop, h]; rfl
    rw [if_neg (by simp), if_pos (by omega), hb, if_pos h1]
    by_cases e1 : c.toNat = 43
    · refine ⟨_, by rw [if_pos (by omega)], ?_⟩
      rw [hx]; simp [signL, e1]
    · rw [if_neg (by omega)]
      by_cases e2 : c.toNat = 45
      · refine ⟨_, by rw [if_pos (by omega)], ?_⟩
        rw [hx]; simp [signL, e2]
      · refine ⟨_, by rw [if_neg (by omega)], ?_⟩
        rw [h]; simp [signL, e1, e2]
def cutL (p l : List UInt8) : Option (List UInt8) := if l.take p.length = p then some (l.drop p.length) else none
theorem cut_f (s p : ByteArray) : match cutL p.data.toList s.data.toList with
    | some r => ∃ y, strings_CutPrefix.f s p = some (y, true) ∧ y.data.toList = r
    | none => strings_CutPrefix.f s p = some (s, false) := by
  unfold strings_CutPrefix.f stringslite_CutPrefix.f stringslite_HasPrefix.f cutL
  have hl := ba_len s
  have hp := ba_len p
  by_cases hle : p.data.toList.length ≤ s.data.toList.length
  · have hx : (s.extract 0 p.size).toList = s.data.toList.take p.data.toList.length := by
      rw [Lib.extract_toList, hp]; simp
    have hy : (s.extract p.size s.size).data.toList = s.data.toList.drop p.data.toList.length := by rw [ba_drop, hp]
    rw [if_pos (show (s.size : Int) ≥ (p.size : Int) by omega), if_pos (show (0 : Int) ≤ (p.size : Int) by omega), if_pos (show (p.size : Int) ≤ (s.size : Int) by omega)]
    simp only [Int.toNat_natCast, Option.bind_some]
    rw [hx, ba_toList p]
    by_cases he : s.data.toList.take p.data.toList.length = p.data.toList
    · rw [if_pos he]
      have e : (s.data.toList.take p.data.toList.length == p.data.toList) = true := by simpa using he
      rw [if_pos e, if_pos (show (0 : Int) ≤ (p.size : Int) by omega), if_pos (show (p.size : Int) ≤ (s.size : Int) by omega)]
      exact ⟨_, rfl, hy⟩
    · rw [if_neg he]
      have e : ¬ (s.data.toList.take p.data.toList.length == p.data.toList) = true := by simpa using he
      rw [if_neg e]
      rfl
  · have he : ¬ s.data.toList.take p.data.toList.length = p.data.toList := by
      intro he
      have := congrArg List.length he
      rw [List.length_take] at this
      omega
    rw [if_neg he, if_neg (by omega)]
    rfl
end Go.Proofs.YtpbkdeelkpjccaaDoor.G

namespace Go.Proofs.YtpbkdeelkpjccaaDoor.G
open Go.RowKit Go.Proofs.YtpbkdeelkpjccaaDoorW.PrintWords
set_option linter.unusedVariables false
set_option linter.unusedSimpArgs false
def wholeL (l : List UInt8) : Bool := match cutL [48, 111] l with
  | some r => allL 8 r
  | none => match cutL [48, 120] l with
    | some r => allL 16 r
    | none => allL 10 (signL l)
theorem cutL_len {p l r : List UInt8} (h : cutL p l = some r) : r.length ≤ l.length := by
  unfold cutL at h
  split at h
  · obtain rfl := Option.some.inj h; simp
  · cases h
theorem whole_f (s : ByteArray) (hs : s.data.toList.length ≤ 140737488355328) (k : Nat) (hk : s.data.toList.length + 3 ≤ k) : tag_whole.f k s = some (wholeL s.data.toList) := by
  unfold tag_whole.f wholeL
  have c1 := cut_f s ⟨#[48, 111]⟩
  simp only [show (⟨#[48, 111]⟩ : ByteArray).data.toList = [48, 111] from rfl] at c1
  cases h1 : cutL [48, 111] s.data.toList with
  | some r =>
    rw [h1] at c1
    obtain ⟨y, hy, e⟩ := c1
    have hl := cutL_len h1
    rw [hy]
    simp only [Option.bind_some, if_true]
    rw [all_f y 8 (by rw [e]; omega) k (by rw [e]; omega), e]
    rfl
  | none =>
    rw [h1] at c1
    dsimp only at c1
    rw [c1]
    simp only [Option.bind_some, Bool.false_eq_true, if_false]
    have c2 := cut_f s ⟨#[48, 120]⟩
    simp only [show (⟨#[48, 120]⟩ : ByteArray).data.toList = [48, 120] from rfl] at c2
    cases h2 : cutL [48, 120] s.data.toList with
    | some r =>
      rw [h2] at c2
      obtain ⟨y, hy, e⟩ := c2
      have hl := cutL_len h2
      rw [hy]
      simp only [Option.bind_some, if_true]
      rw [all_f y 16 (by rw [e]; omega) k (by rw [e]; omega), e]
      rfl
    | none =>
      rw [h2] at c2
      dsimp only at c2
      rw [c2]
      simp only [Option.bind_some, Bool.false_eq_true, if_false]
      obtain ⟨y, hy, e⟩ := sign_f s
      have hl := signL_len s.data.toList
      rw [hy]
      simp only [Option.bind_some]
      rw [all_f y 10 (by rw [e]; omega) k (by rw [e]; omega), e]
      rfl
def powL : List UInt8 → Bool
  | [] => true
  | c :: r => (decide (c.toNat = 101) || decide (c.toNat = 69)) && allL 10 (signL r)
def realL (l : List UInt8) : Bool :=
  match cutL [46] ((signL l).drop (digs 10 (signL l))) with
  | some r => if digs 10 (signL l) + digs 10 r = 0 then false else powL (r.drop (digs 10 r))
  | none => if digs 10 (signL l) = 0 then false else powL ((signL l).drop (digs 10 (signL l)))
theorem real_j0 (y : ByteArray) (a b : Nat) (ha : a ≤ 140737488355328) (hb : b ≤ 140737488355328) (hy : y.data.toList.length ≤ 140737488355328) (k : Nat) (hk : y.data.toList.length + 4 ≤ k) :
    tag_real.j0 k y (a : Int) (b : Int) = some (if a + b = 0 then false else powL y.data.toList) := by
  obtain ⟨k, rfl⟩ : ∃ m, k = m + 1 := ⟨k - 1, by omega⟩
  simp only [tag_real.j0]
  rw [w64 (by omega) (by omega)]
  have hyl := ba_len y
  by_cases h0 : a + b = 0
  · rw [if_pos (by omega), if_pos h0]
  · rw [if_neg (by omega), if_neg h0, ba_toList]
    cases h : y.data.toList with
    | nil => rw [if_pos rfl]; rfl
    | cons c r =>
      have hlt : 0 < y.data.toList.length := by rw [h]; simp
      have h1 : (1 : Int) ≤ (y.size : Int) := by omega
      have hbt : bt y 0 = (c.toNat : Int) := by
        have := bt_get y 0 hlt
        simp only [h, List.getElem_cons_zero] at this
        exact this
      have hx : (y.extract 1 y.size).data.toList = r := by rw [ba_drop, h]; rfl
      have hrl : r.length < y.data.toList.length := by rw [h]; simp
      rw [if_neg (by simp), if_pos (by omega), hbt, if_pos h1]
      obtain ⟨z, hz, e⟩ := sign_f (y.extract 1 y.size)
      have hl := signL_len r
      rw [hx] at e
      rw [hz]
      simp only [Option.bind_some]
      rw [all_f z 10 (by rw [e]; omega) k (by rw [e]; omega), e]
      simp only [Option.bind_some, powL]
      by_cases e1 : c.toNat = 101
      · rw [if_pos (by omega)]; simp [e1]
      · rw [if_neg (by omega)]
        by_cases e2 : c.toNat = 69
        · rw [if_pos (by omega)]; simp [e2]
        · rw [if_neg (by omega)]; simp [e1, e2]
theorem real_f (s : ByteArray) (hs : s.data.toList.length ≤ 140737488355328) (k : Nat) (hk : s.data.toList.length + 4 ≤ k) : tag_real.f k s = some (realL s.data.toList) := by
  unfold tag_real.f realL
  obtain ⟨y, hy, e⟩ := sign_f s
  have hl := signL_len s.data.toList
  have hd := digs_le 10 (signL s.data.toList)
  rw [hy]
  simp only [Option.bind_some]
  rw [digits_f y 10 (by rw [e]; omega) k (by rw [e]; omega), e]
  simp only [Option.bind_some]
  have hex : (y.extract (digs 10 (signL s.data.toList)) y.size).data.toList = (signL s.data.toList).drop (digs 10 (signL s.data.toList)) := by rw [ba_drop, e]
  have c1 := cut_f (y.extract (digs 10 (signL s.data.toList)) y.size) ⟨#[46]⟩
  simp only [show (⟨#[46]⟩ : ByteArray).data.toList = [46] from rfl] at c1
  rw [hex] at c1
  cases h1 : cutL [46] ((signL s.data.toList).drop (digs 10 (signL s.data.toList))) with
  | some r =>
    rw [h1] at c1
    obtain ⟨z, hz, ez⟩ := c1
    have hrl := cutL_len h1
    rw [List.length_drop] at hrl
    have hd2 := digs_le 10 r
    rw [hz]
    simp only [Option.bind_some, if_true]
    rw [digits_f z 10 (by rw [ez]; omega) k (by rw [ez]; omega), ez]
    simp only [Option.bind_some]
    have hz2 : (z.extract (digs 10 r) z.size).data.toList = r.drop (digs 10 r) := by rw [ba_drop, ez]
    rw [real_j0 _ _ _ (by omega) (by omega) (by rw [hz2, List.length_drop]; omega) k (by rw [hz2, List.length_drop]; omega), hz2]
  | none =>
    rw [h1] at c1
    dsimp only at c1
    rw [c1]
    simp only [Option.bind_some, Bool.false_eq_true, if_false]
    have := real_j0 (y.extract (digs 10 (signL s.data.toList)) y.size) (digs 10 (signL s.data.toList)) 0 (by omega) (by omega) (by rw [hex, List.length_drop]; omega) k (by rw [hex, List.length_drop]; omega)
    rw [hex, Nat.add_zero] at this
    exact this
def resolveL (l : List UInt8) : List UInt8 := resolveBy l (signL l) (wholeL l) (realL l)
theorem resolve_all (s : ByteArray) (hs : s.size ≤ 140737488355328) (w : World) :
    Calls Tryd.prog 75 #[.string s] w fun e w' => e = .returned (.string ⟨(resolveL s.data.toList).toArray⟩) ∧ Drawn0 w w' := by
  rw [ba_len] at hs
  obtain ⟨y, hy, e⟩ := sign_f s
  have := resolve_any (s.data.toList.length + 4) s y _ _ w hy (whole_f s hs _ (by omega)) (real_f s hs _ (by omega))
  rw [ba_toList, ba_toList, e] at this
  exact this
def tag_Resolve.f (a0 : ByteArray) : Option ByteArray := if a0.size ≤ 140737488355328 then some ⟨(resolveL a0.data.toList).toArray⟩ else none
theorem tag_Resolve.calls (a0 : ByteArray) (r : ByteArray) (w : World) (h : tag_Resolve.f a0 = some r) :
    Calls Tryd.prog 75 #[.string a0] w fun e w' => e = .returned (.string r) ∧ Drawn0 w w' := by
  unfold tag_Resolve.f at h
  split at h
  · rename_i hs; obtain rfl := Option.some.inj h; exact resolve_all a0 hs w
  · cases h
end Go.Proofs.YtpbkdeelkpjccaaDoor.G

-- Laid by xprint.py (this work's own driver of the kit's printer).
namespace Go.Proofs.YtpbkdeelkpjccaaDoor.G
open Go.RowKit Go.Proofs.YtpbkdeelkpjccaaDoorW.PrintWords Go.Proofs.YtpbkdeelkpjccaaDoorW.PrintLast Go.Proofs.YtpbkdeelkpjccaaDoorW.PrintMore
attribute [local go_sem] max2_int min2_int max_two min_two max_three min_three max_four min_four   -- for this text's walks alone
set_option linter.unusedVariables false
set_option linter.unusedSimpArgs false
def arena_Node_keys.l0 : Nat → List Int → Int → Int → ByteArray → ByteArray → List Int → Option (List Int)
  | 0, _, _, _, _, _, _ => none
  | k + 1, x2, x3, x2000, x2001, x2002, x2003 => if x3 < (x2003.length : Int) then (if 0 ≤ x3 then (if x2.length < 17592186044416 then (arena_Node_keys.l0 k (x2 ++ [rd x2003 x3]) (wrap64 (x3 + 2)) x2000 x2001 x2002 x2003) else (none)) else (none)) else (some x2)
def arena_Node_keys.f (k : Nat) (a0_0 : Int) (a0_1 : ByteArray) (a0_2 : ByteArray) (l0_3 : List Int) : Option (List Int) := arena_Node_keys.l0 k ([] : List Int) 0 a0_0 a0_1 a0_2 l0_3
theorem arena_Node_keys.mono_l : ∀ k, (∀ y0 y1 y2 y3 y4 y5, LeO (arena_Node_keys.l0 k y0 y1 y2 y3 y4 y5) (arena_Node_keys.l0 (k + 1) y0 y1 y2 y3 y4 y5))
  | 0 => fun _ _ _ _ _ _ r h => by simp [arena_Node_keys.l0] at h
  | k + 1 => by
    have ih0 := arena_Node_keys.mono_l k
    · intro y0 y1 y2 y3 y4 y5
      unfold arena_Node_keys.l0
      repeat' first
      | (with_reducible exact ih0 _ _ _ _ _ _)
      | (with_reducible exact LeO.refl _)
      | (with_reducible exact LeO.none _)
      | (with_reducible refine LeO.ite ?_ ?_)
      | (with_reducible refine LeO.bind ?_ (fun _ => ?_))
      | exact ih0 _ _ _ _ _ _
      | exact LeO.none _
      | refine LeO.ite ?_ ?_
      | refine LeO.bind ?_ (fun _ => ?_)
theorem arena_Node_keys.mono : ∀ a0 a1 a2 a3 k, LeO (arena_Node_keys.f k a0 a1 a2 a3) (arena_Node_keys.f (k + 1) a0 a1 a2 a3) := by
  intro a0 a1 a2 a3 k
  have ih0 := arena_Node_keys.mono_l k
  unfold arena_Node_keys.f
  repeat' first
      | (with_reducible exact ih0 _ _ _ _ _ _)
      | (with_reducible exact LeO.refl _)
      | (with_reducible exact LeO.none _)
      | (with_reducible refine LeO.ite ?_ ?_)
      | (with_reducible refine LeO.bind ?_ (fun _ => ?_))
      | exact ih0 _ _ _ _ _ _
      | exact LeO.none _
      | refine LeO.ite ?_ ?_
      | refine LeO.bind ?_ (fun _ => ?_)
set_option maxHeartbeats 8000000 in
set_option maxRecDepth 100000 in
theorem arena_Node_keys.calls (k : Nat) (a0_0 : Int) (a0_1 : ByteArray) (a0_2 : ByteArray) (A0_3 : Option Addr) (c0_3 : Nat) (l0_3 : List Int) (r : List Int) (w : World) (hr0_3 : Kd.C (Kd.int .i64) w A0_3 l0_3.length l0_3) (hc0_3 : l0_3.length ≤ c0_3) (h : arena_Node_keys.f k a0_0 a0_1 a0_2 l0_3 = some r) :
    Calls Tryd.prog 59 #[.agg #[.int .i64 a0_0, .string a0_1, .string a0_2, .slice A0_3 l0_3.length c0_3]] w fun e w' => ∃ v0_ : Value, e = .returned (v0_) ∧ Kd.R (Kd.int .i64) 3 w' w.heap.size (fun _ => True) v0_ r ∧ Below w.heap.size w w' := by
  have hu34 := Tryd.underlying34
  have HR0_3 := Aside0.mk hr0_3
  have HC0_3 := Aside0.mk hc0_3
  clear hr0_3 hc0_3
  have HB := Aside0.mk (Below.refl w.heap.size w)
  have H : (arena_Node_keys.l0 k ([] : List Int) 0 a0_0 a0_1 a0_2 l0_3) = some r := h
  clear h
  have H' := Aside0.mk H
  clear H
  go_enter Tryd.func59, Tryd.ntmps59
  go_wp2_with (first | ((with_reducible refine gate_dst (N := 1) rfl ?_); refine box_event ?hg (N := 1) ?hd (cs := #[.int .i64 a0_0, .string a0_1, .string a0_2, .slice A0_3 l0_3.length c0_3]) (t := 34) ?hr ?_; (case hd => rfl); (case hg => rfl); (case hr => first | (go_simp; done) | (go_simp; rfl)); intro gb1 hg w2 hbox hb; have n0_ := Aside0.mk (below_step (by repeat (first | (with_reducible first | exact HB.out | apply below_alloc | apply pw_below_drewN | apply below_drew1) | exact HB.out)) hb); have n1_ := Aside0.mk (hbox); have n2_ := Aside0.mk ((by rw [hg]; exact (below_size (by repeat (first | (with_reducible first | exact HB.out | apply below_alloc | apply pw_below_drewN | apply below_drew1) | exact HB.out))) : w.heap.size ≤ gb1)); have n3_ := Aside0.mk ((by rw [hg]; exact (below_size (by repeat (first | (with_reducible first | exact HB.out | apply below_alloc | apply pw_below_drewN | apply below_drew1) | exact HB.out))) : w.heap.size ≤ gb1)); clear HB; have HB := n0_; have BK1 := n1_; have GW1 := n2_; have GE1 := n3_; clear n0_ n1_ n2_ n3_; clear hb hbox hg))
  go_loopg [2, 3] k (fun kq v2 v3 w' => ∃ (x2_1 : List Int) (x3_1 : Int), v3 = .int .i64 x3_1 ∧ Aside0 (arena_Node_keys.l0 kq x2_1 x3_1 a0_0 a0_1 a0_2 l0_3 = some r) ∧ Aside0 (kq ≤ k) ∧ Aside0 (Kd.R (Kd.int .i64) 3 w' w.heap.size (fun _ => True) v2 x2_1) ∧ Aside0 (w'.heap[gb1]? = some (.cells #[.int .i64 a0_0, .string a0_1, .string a0_2, (.slice A0_3 l0_3.length c0_3)] 34 (0, 0))) ∧ Aside0 (Below w.heap.size w w'))
  case atStart => exact ⟨(([] : List Int)), (0), (by first | rfl | (simp; done) | (simp [*]; done)), H', ⟨Nat.le_refl _⟩, ⟨by first | exact Kd.R_nil _ _ _ _ _ | exact Kd.N_nil _ _ _ _ _ | exact Kd.V_nil _ _ _ _ _ | exact Kd.Q_nil _ _ _ _ _ | exact Kd.S_nil _ _ _ _ _⟩, ⟨by (with_reducible repeat (first | refine blk_drewN ?_ _ | refine blk_drew ?_ | refine blk_alloc ?_ _)); exact BK1.out⟩, ⟨by repeat (first | (with_reducible first | exact HB.out | apply below_alloc | apply pw_below_drewN | apply below_drew1 | refine below_set ?_ GE1.out) | exact HB.out)⟩⟩
  case round =>
    clear H'
    try clear p2
    obtain ⟨x2_1, x3_1, rfl, HA, HK1, HO_2, BK1, HB⟩ := hrel
    cases gk with
    | zero => exact absurd HA.out (by simp [arena_Node_keys.l0])
    | succ k1 =>
      have H := HA.out
      clear HA
      simp only [arena_Node_keys.l0] at H
      by_cases c3 : x3_1 < (l0_3.length : Int)
      · rw [if_pos c3] at H
        have c3b0 : decide (x3_1 < (l0_3.length : Int)) = true := decide_eq_true c3
        clear c3
        by_cases c4 : 0 ≤ x3_1
        · rw [if_pos c4] at H
          have c4b0 : decide (0 ≤ x3_1) = true := decide_eq_true c4
          clear c4
          by_cases c5 : x2_1.length < 17592186044416
          · rw [if_pos c5] at H
            have LMc5 := Aside0.mk c5
            clear c5
            obtain ⟨y3, hy3⟩ : ∃ y_ : List Int, y_ = (x2_1 ++ [rd l0_3 x3_1]) := ⟨_, rfl⟩
            replace H : (arena_Node_keys.l0 k1 y3 (wrap64 (x3_1 + 2)) a0_0 a0_1 a0_2 l0_3) = some r := by first | (rw [hy3]; with_reducible exact H) | (have H2_ := (Option.bind_some _ _).symm.trans H; rw [hy3]; with_reducible exact H2_) | (have H2_ := (Option.bind_some _ _).symm.trans H; with_reducible exact H2_) | with_reducible exact H | (rw [hy3]; exact H) | exact H
            have Ny3 := Aside0.mk hy3
            clear hy3
            have H' := Aside0.mk H
            clear H
            have hcz6_0 : wr.cell? ⟨gb1, 0, none⟩ = some (.int .i64 a0_0) := (blk_cell BK1.out 0).trans rfl
            have hcz6_1 : wr.cell? ⟨gb1, 1, none⟩ = some (.string a0_1) := (blk_cell BK1.out 1).trans rfl
            have hcz6_2 : wr.cell? ⟨gb1, 2, none⟩ = some (.string a0_2) := (blk_cell BK1.out 2).trans rfl
            have hcz6_3 : wr.cell? ⟨gb1, 3, none⟩ = some (.slice A0_3 l0_3.length c0_3) := (blk_cell BK1.out 3).trans rfl
            have hfz6_0 := blk_frozen BK1.out 0
            have hfz6_1 := blk_frozen BK1.out 1
            have hfz6_2 := blk_frozen BK1.out 2
            have hfz6_3 := blk_frozen BK1.out 3
            have p2 : 0 ≤ (x3_1 : Int) := of_decide_eq_true (by first | (with_reducible assumption) | assumption)
            have q2 : x3_1 < (l0_3.length : Int) := of_decide_eq_true (by first | (with_reducible assumption) | assumption)
            obtain ⟨ad2, e2, hx2_0⟩ := Kd.at_int HR0_3.out x3_1 p2 q2
            cases e2
            replace hx2_0 := (HB.out.cell (World.block_lt_of_cell? w _ hx2_0)).trans hx2_0
            replace p2 := eq_true p2
            replace q2 := eq_true q2
            go_wp2_with (first | ((with_reducible refine gate_builtin (b := .append) (xs := #[.tmp 11, .tmp 17]) rfl ?_); at_builtin; refine Kd.R_append (Kd.int .i64) (w0 := w) w.heap.size rfl (.tmp 11) (.tmp 17) 22 3 (.int .i64 0) 8 rfl Tryd.underlying22 info3 rfl (by decide) (by omega) u2 x2_1 (rd l0_3 x3_1) [.int .i64 (rd l0_3 x3_1)] (fun _ => True) (fun _ => False) rfl rfl ?aP (fun _ hk => hk.elim) ?aF ?aO ?aB ?aS ?aL ?_; (case aP => exact rfl); (case aB => exact (by repeat (first | (with_reducible first | exact HB.out | apply below_alloc | apply pw_below_drewN | apply below_drew1 | refine below_set ?_ GE1.out) | exact HB.out))); (case aF => exact (fun _ _ => trivial)); (case aO => exact (by (with_reducible repeat (first | apply Kd.R_alloc | apply Kd.R_drewN | apply Kd.R_drew)); exact HO_2.out)); (case aS => exact (below_size (by repeat (first | (with_reducible first | exact HB.out | apply below_alloc | apply pw_below_drewN | apply below_drew1 | refine below_set ?_ GE1.out) | exact HB.out)))); (case aL => have := LMc5.out; omega); intro v4 w7 ho hb hg hat; rw [← Ny3.out] at ho; have n0_ := Aside0.mk (blk_grown (g := gb1) (o := .cells #[.int .i64 a0_0, .string a0_1, .string a0_2, .slice (some ad2) l0_3.length c0_3] 34 (0, 0)) (by (with_reducible repeat (first | refine blk_drewN ?_ _ | refine blk_drew ?_ | refine blk_alloc ?_ _)); exact BK1.out) hg (Kd.R_ne HO_2.out BK1.out (by decide))); have n1_ := Aside0.mk (hb); have n2_ := Aside0.mk (ho); clear BK1; clear HB; clear HO_2; have BK1 := n0_; have HB := n1_; have HO5 := n2_; clear n0_ n1_ n2_; clear ho hb hg hat))
            go_roundg k1
            case measure => have := HK1.out; omega
            case rel => exact ⟨(y3), (wrap64 (x3_1 + 2)), (by first | rfl | (simp; done) | (simp [*]; done)), H', ⟨by have := HK1.out; omega⟩, ⟨by (with_reducible repeat (first | apply Kd.R_alloc | apply Kd.R_drewN | apply Kd.R_drew)); exact HO5.out⟩, ⟨by (with_reducible repeat (first | refine blk_drewN ?_ _ | refine blk_drew ?_ | refine blk_alloc ?_ _)); exact BK1.out⟩, ⟨by repeat (first | (with_reducible first | exact HB.out | apply below_alloc | apply pw_below_drewN | apply below_drew1 | refine below_set ?_ GE1.out) | exact HB.out)⟩⟩
          · rw [if_neg c5] at H
            exact absurd H (by simp)
        · rw [if_neg c4] at H
          exact absurd H (by simp)
      · rw [if_neg c3] at H
        have c3b0 : decide (x3_1 < (l0_3.length : Int)) = false := decide_eq_false c3
        clear c3
        obtain rfl := Option.some.inj H
        have hcz8_0 : wr.cell? ⟨gb1, 0, none⟩ = some (.int .i64 a0_0) := (blk_cell BK1.out 0).trans rfl
        have hcz8_1 : wr.cell? ⟨gb1, 1, none⟩ = some (.string a0_1) := (blk_cell BK1.out 1).trans rfl
        have hcz8_2 : wr.cell? ⟨gb1, 2, none⟩ = some (.string a0_2) := (blk_cell BK1.out 2).trans rfl
        have hcz8_3 : wr.cell? ⟨gb1, 3, none⟩ = some (.slice A0_3 l0_3.length c0_3) := (blk_cell BK1.out 3).trans rfl
        have hfz8_0 := blk_frozen BK1.out 0
        have hfz8_1 := blk_frozen BK1.out 1
        have hfz8_2 := blk_frozen BK1.out 2
        have hfz8_3 := blk_frozen BK1.out 3
        go_wp2
        go_ret
        exact ⟨_, by first | rfl | (simp [errW_none, errW_some] <;> rfl) | (simp [*, errW_none, errW_some] <;> rfl), by (with_reducible repeat (first | apply Kd.R_alloc | apply Kd.R_drewN | apply Kd.R_drew)); exact HO_2.out, by repeat (first | (with_reducible first | exact HB.out | apply below_alloc | apply pw_below_drewN | apply below_drew1 | refine below_set ?_ GE1.out) | exact HB.out)⟩
end Go.Proofs.YtpbkdeelkpjccaaDoor.G

-- Laid by xprint.py (this work's own driver of the kit's printer).
namespace Go.Proofs.YtpbkdeelkpjccaaDoor.G
open Go.RowKit Go.Proofs.YtpbkdeelkpjccaaDoorW.PrintWords Go.Proofs.YtpbkdeelkpjccaaDoorW.PrintLast Go.Proofs.YtpbkdeelkpjccaaDoorW.PrintMore
attribute [local go_sem] max2_int min2_int max_two min_two max_three min_three max_four min_four   -- for this text's walks alone
set_option linter.unusedVariables false
set_option linter.unusedSimpArgs false
def arena_Graph_has.f (l0 : List (S34)) (a1 : Int) : Option (Bool) := if a1 ≥ 0 then (some (decide (a1 < (l0.length : Int)))) else (some false)
set_option maxHeartbeats 8000000 in
set_option maxRecDepth 100000 in
theorem arena_Graph_has.calls (A0 : Option Addr) (c0 : Nat) (l0 : List (S34)) (a1 : Int) (r : Bool) (w : World) (hr0 : Kd.C k34 w A0 l0.length l0) (hc0 : l0.length ≤ c0) (h : arena_Graph_has.f l0 a1 = some r) :
    Calls Tryd.prog 55 #[.slice A0 l0.length c0, .int .i64 a1] w fun e w' => e = .returned (.bool r) ∧ Drawn0 w w' := by
  have HR0 := Aside0.mk hr0
  have HC0 := Aside0.mk hc0
  clear hr0 hc0
  have H : (if a1 ≥ 0 then (some (decide (a1 < (l0.length : Int)))) else (some false)) = some r := h
  clear h
  by_cases c3 : a1 ≥ 0
  · rw [if_pos c3] at H
    have c3b0 : decide (0 ≤ a1) = true := decide_eq_true c3
    clear c3
    obtain rfl := Option.some.inj H
    go_enter Tryd.func55, Tryd.ntmps55
    go_wp2
    go_ret
    exact ⟨by first | rfl | (simp; done) | (simp [*]; done), by repeat (first | exact Drawn0.refl _ | apply Drawn0.step)⟩
  · rw [if_neg c3] at H
    have c3b0 : decide (0 ≤ a1) = false := decide_eq_false c3
    clear c3
    obtain rfl := Option.some.inj H
    go_enter Tryd.func55, Tryd.ntmps55
    go_wp2
    go_ret
    exact ⟨by first | rfl | (simp; done) | (simp [*]; done), by repeat (first | exact Drawn0.refl _ | apply Drawn0.step)⟩
end Go.Proofs.YtpbkdeelkpjccaaDoor.G

-- Laid by xprint.py (this work's own driver of the kit's printer).
namespace Go.Proofs.YtpbkdeelkpjccaaDoor.G
open Go.RowKit Go.Proofs.YtpbkdeelkpjccaaDoorW.PrintWords Go.Proofs.YtpbkdeelkpjccaaDoorW.PrintLast Go.Proofs.YtpbkdeelkpjccaaDoorW.PrintMore
attribute [local go_sem] max2_int min2_int max_two min_two max_three min_three max_four min_four   -- for this text's walks alone
set_option linter.unusedVariables false
set_option linter.unusedSimpArgs false
def tag_Fits.f (a0 : ByteArray) (a1 : ByteArray) : Option (Bool) := (tag_plain.f a0).bind fun t1 => (if t1 = true then ((tag_Resolve.f a1).bind fun t2 => (if t2.toList = a0.toList then (some true) else (if a0.toList = ([102, 108, 111, 97, 116] : List UInt8) then (some (t2.toList == ([105, 110, 116] : List UInt8))) else (some false)))) else (if a0.toList = ([115, 116, 114] : List UInt8) then (some true) else ((tag_own.f a0).bind fun t3 => (some t3))))
set_option maxHeartbeats 8000000 in
set_option maxRecDepth 100000 in
theorem tag_Fits.calls (a0 : ByteArray) (a1 : ByteArray) (r : Bool) (w : World) (h : tag_Fits.f a0 a1 = some r) :
    Calls Tryd.prog 56 #[.string a0, .string a1] w fun e w' => e = .returned (.bool r) ∧ Below w.heap.size w w' := by
  have HB := Aside0.mk (Below.refl w.heap.size w)
  have H : ((tag_plain.f a0).bind fun t1 => (if t1 = true then ((tag_Resolve.f a1).bind fun t2 => (if t2.toList = a0.toList then (some true) else (if a0.toList = ([102, 108, 111, 97, 116] : List UInt8) then (some (t2.toList == ([105, 110, 116] : List UInt8))) else (some false)))) else (if a0.toList = ([115, 116, 114] : List UInt8) then (some true) else ((tag_own.f a0).bind fun t3 => (some t3))))) = some r := h
  clear h
  replace H := Option.bind_eq_some_iff.mp H
  obtain ⟨t1, A30, H⟩ := H
  replace H : (if t1 = true then ((tag_Resolve.f a1).bind fun t2 => (if t2.toList = a0.toList then (some true) else (if a0.toList = ([102, 108, 111, 97, 116] : List UInt8) then (some (t2.toList == ([105, 110, 116] : List UInt8))) else (some false)))) else (if a0.toList = ([115, 116, 114] : List UInt8) then (some true) else ((tag_own.f a0).bind fun t3 => (some t3)))) = some r := H
  have A3 := Aside0.mk A30
  clear A30
  by_cases c4 : t1 = true
  · subst c4
    have H1 : ((tag_Resolve.f a1).bind fun t2 => (if t2.toList = a0.toList then (some true) else (if a0.toList = ([102, 108, 111, 97, 116] : List UInt8) then (some (t2.toList == ([105, 110, 116] : List UInt8))) else (some false)))) = some r := by rw [if_pos rfl] at H; exact H
    clear H
    have H := H1
    clear H1
    replace H := Option.bind_eq_some_iff.mp H
    obtain ⟨t2, A50, H⟩ := H
    replace H : (if t2.toList = a0.toList then (some true) else (if a0.toList = ([102, 108, 111, 97, 116] : List UInt8) then (some (t2.toList == ([105, 110, 116] : List UInt8))) else (some false))) = some r := H
    have A5 := Aside0.mk A50
    clear A50
    by_cases c6 : t2.toList = a0.toList
    · rw [if_pos c6] at H
      have c6b0 : (t2.toList == a0.toList) = true := beq_iff_eq.mpr c6
      have c6b1 : (t2.toList != a0.toList) = false := bne_eq_false_iff_eq.mpr c6
      clear c6
      obtain rfl := Option.some.inj H
      go_enter Tryd.func56, Tryd.ntmps56
      go_wp2_with (first | ((with_reducible refine gate_callee (f := 74) rfl ?_); refine goesL_ (some 7) rfl rfl Tryd.func74 (by kernel_rfl) rfl #[.string a0] rfl (by (try simp only [List.map_toArray, List.map_cons, List.map_nil]); first | done | rfl | (simp only [List.length_drop, List.length_take]; rfl)) ?_; (with_reducible refine (tag_plain.calls a0 true _ A3.out).mono ?_); rintro e w' ⟨rfl, ⟨nd, rfl⟩⟩; refine ⟨_, rfl, ?_⟩) | ((with_reducible refine gate_callee (f := 75) rfl ?_); refine goesL_ (some 16) rfl rfl Tryd.func75 (by kernel_rfl) rfl #[.string a1] rfl (by (try simp only [List.map_toArray, List.map_cons, List.map_nil]); first | done | rfl | (simp only [List.length_drop, List.length_take]; rfl)) ?_; (with_reducible refine (tag_Resolve.calls a1 t2 _ A5.out).mono ?_); rintro e w' ⟨rfl, ⟨nd, rfl⟩⟩; refine ⟨_, rfl, ?_⟩))
      go_ret
      exact ⟨by first | rfl | (simp [errW_none, errW_some] <;> rfl) | (simp [*, errW_none, errW_some] <;> rfl), by repeat (first | (with_reducible first | exact HB.out | apply below_alloc | apply pw_below_drewN | apply below_drew1) | exact HB.out)⟩
    · rw [if_neg c6] at H
      have c6b0 : (t2.toList == a0.toList) = false := beq_eq_false_iff_ne.mpr c6
      have c6b1 : (t2.toList != a0.toList) = true := bne_iff_ne.mpr c6
      by_cases c7 : a0.toList = ([102, 108, 111, 97, 116] : List UInt8)
      · rw [if_pos c7] at H
        have c7b0 : (a0.toList == ([102, 108, 111, 97, 116] : List UInt8)) = true := beq_iff_eq.mpr c7
        have c7b1 : (a0.toList != ([102, 108, 111, 97, 116] : List UInt8)) = false := bne_eq_false_iff_eq.mpr c7
        clear c7
        obtain rfl := Option.some.inj H
        go_enter Tryd.func56, Tryd.ntmps56
        go_wp2_with (first | ((with_reducible refine gate_callee (f := 74) rfl ?_); refine goesL_ (some 7) rfl rfl Tryd.func74 (by kernel_rfl) rfl #[.string a0] rfl (by (try simp only [List.map_toArray, List.map_cons, List.map_nil]); first | done | rfl | (simp only [List.length_drop, List.length_take]; rfl)) ?_; (with_reducible refine (tag_plain.calls a0 true _ A3.out).mono ?_); rintro e w' ⟨rfl, ⟨nd, rfl⟩⟩; refine ⟨_, rfl, ?_⟩) | ((with_reducible refine gate_callee (f := 75) rfl ?_); refine goesL_ (some 16) rfl rfl Tryd.func75 (by kernel_rfl) rfl #[.string a1] rfl (by (try simp only [List.map_toArray, List.map_cons, List.map_nil]); first | done | rfl | (simp only [List.length_drop, List.length_take]; rfl)) ?_; (with_reducible refine (tag_Resolve.calls a1 t2 _ A5.out).mono ?_); rintro e w' ⟨rfl, ⟨nd, rfl⟩⟩; refine ⟨_, rfl, ?_⟩))
        go_ret
        exact ⟨by first | rfl | (simp [errW_none, errW_some] <;> rfl) | (simp [*, errW_none, errW_some] <;> rfl), by repeat (first | (with_reducible first | exact HB.out | apply below_alloc | apply pw_below_drewN | apply below_drew1) | exact HB.out)⟩
      · rw [if_neg c7] at H
        have c7b0 : (a0.toList == ([102, 108, 111, 97, 116] : List UInt8)) = false := beq_eq_false_iff_ne.mpr c7
        have c7b1 : (a0.toList != ([102, 108, 111, 97, 116] : List UInt8)) = true := bne_iff_ne.mpr c7
        obtain rfl := Option.some.inj H
        go_enter Tryd.func56, Tryd.ntmps56
        go_wp2_with (first | ((with_reducible refine gate_callee (f := 74) rfl ?_); refine goesL_ (some 7) rfl rfl Tryd.func74 (by kernel_rfl) rfl #[.string a0] rfl (by (try simp only [List.map_toArray, List.map_cons, List.map_nil]); first | done | rfl | (simp only [List.length_drop, List.length_take]; rfl)) ?_; (with_reducible refine (tag_plain.calls a0 true _ A3.out).mono ?_); rintro e w' ⟨rfl, ⟨nd, rfl⟩⟩; refine ⟨_, rfl, ?_⟩) | ((with_reducible refine gate_callee (f := 75) rfl ?_); refine goesL_ (some 16) rfl rfl Tryd.func75 (by kernel_rfl) rfl #[.string a1] rfl (by (try simp only [List.map_toArray, List.map_cons, List.map_nil]); first | done | rfl | (simp only [List.length_drop, List.length_take]; rfl)) ?_; (with_reducible refine (tag_Resolve.calls a1 t2 _ A5.out).mono ?_); rintro e w' ⟨rfl, ⟨nd, rfl⟩⟩; refine ⟨_, rfl, ?_⟩))
        go_ret
        exact ⟨by first | rfl | (simp [errW_none, errW_some] <;> rfl) | (simp [*, errW_none, errW_some] <;> rfl), by repeat (first | (with_reducible first | exact HB.out | apply below_alloc | apply pw_below_drewN | apply below_drew1) | exact HB.out)⟩
  · replace c4 := Bool.eq_false_iff.mpr c4
    subst c4
    have H1 : (if a0.toList = ([115, 116, 114] : List UInt8) then (some true) else ((tag_own.f a0).bind fun t3 => (some t3))) = some r := by rw [if_neg (show ¬ (false = true) by decide)] at H; exact H
    clear H
    have H := H1
    clear H1
    by_cases c8 : a0.toList = ([115, 116, 114] : List UInt8)
    · rw [if_pos c8] at H
      have c8b0 : (a0.toList == ([115, 116, 114] : List UInt8)) = true := beq_iff_eq.mpr c8
      have c8b1 : (a0.toList != ([115, 116, 114] : List UInt8)) = false := bne_eq_false_iff_eq.mpr c8
      clear c8
      obtain rfl := Option.some.inj H
      go_enter Tryd.func56, Tryd.ntmps56
      go_wp2_with (first | ((with_reducible refine gate_callee (f := 74) rfl ?_); refine goesL_ (some 7) rfl rfl Tryd.func74 (by kernel_rfl) rfl #[.string a0] rfl (by (try simp only [List.map_toArray, List.map_cons, List.map_nil]); first | done | rfl | (simp only [List.length_drop, List.length_take]; rfl)) ?_; (with_reducible refine (tag_plain.calls a0 false _ A3.out).mono ?_); rintro e w' ⟨rfl, ⟨nd, rfl⟩⟩; refine ⟨_, rfl, ?_⟩))
      go_ret
      exact ⟨by first | rfl | (simp [errW_none, errW_some] <;> rfl) | (simp [*, errW_none, errW_some] <;> rfl), by repeat (first | (with_reducible first | exact HB.out | apply below_alloc | apply pw_below_drewN | apply below_drew1) | exact HB.out)⟩
    · rw [if_neg c8] at H
      have c8b0 : (a0.toList == ([115, 116, 114] : List UInt8)) = false := beq_eq_false_iff_ne.mpr c8
      have c8b1 : (a0.toList != ([115, 116, 114] : List UInt8)) = true := bne_iff_ne.mpr c8
      replace H := Option.bind_eq_some_iff.mp H
      obtain ⟨t3, A90, H⟩ := H
      replace H : (some t3) = some r := H
      have A9 := Aside0.mk A90
      clear A90
      obtain rfl := Option.some.inj H
      go_enter Tryd.func56, Tryd.ntmps56
      go_wp2_with (first | ((with_reducible refine gate_callee (f := 74) rfl ?_); refine goesL_ (some 7) rfl rfl Tryd.func74 (by kernel_rfl) rfl #[.string a0] rfl (by (try simp only [List.map_toArray, List.map_cons, List.map_nil]); first | done | rfl | (simp only [List.length_drop, List.length_take]; rfl)) ?_; (with_reducible refine (tag_plain.calls a0 false _ A3.out).mono ?_); rintro e w' ⟨rfl, ⟨nd, rfl⟩⟩; refine ⟨_, rfl, ?_⟩) | (go_at_call 72; (with_reducible refine (tag_own.calls a0 t3 _ A9.out).mono ?_); rintro e w10 ⟨rfl, hb⟩; have n0_ := Aside0.mk (below_step (by repeat (first | (with_reducible first | exact HB.out | apply below_alloc | apply pw_below_drewN | apply below_drew1) | exact HB.out)) hb); clear HB; have HB := n0_; clear n0_; (try clear hb); (try clear hb2); (try clear hk); (try clear hi)))
      go_ret
      exact ⟨by first | rfl | (simp [errW_none, errW_some] <;> rfl) | (simp [*, errW_none, errW_some] <;> rfl), by repeat (first | (with_reducible first | exact HB.out | apply below_alloc | apply pw_below_drewN | apply below_drew1) | exact HB.out)⟩
def tag_Fits.Pure : Prop := ∀ (a0 : ByteArray) (a1 : ByteArray), a0.size ≤ 140737488351232 → a1.size ≤ 140737488351232 → tag_Fits.f a0 a1 = some true
theorem tag_Fits.walk (P : tag_Fits.Pure) (a0 : ByteArray) (a1 : ByteArray) (w : World) (w0 : a0.size ≤ 140737488351232) (w1 : a1.size ≤ 140737488351232) :
    Calls Tryd.prog 56 #[.string a0, .string a1] w fun e w' => e = .returned (.bool true) ∧ Below w.heap.size w w' := by
  have h := P a0 a1 w0 w1
  refine (tag_Fits.calls a0 a1 true w h).mono ?_
  rintro e w' ⟨rfl, hd⟩
  exact ⟨rfl, hd⟩
end Go.Proofs.YtpbkdeelkpjccaaDoor.G

-- Laid by xprint.py (this work's own driver of the kit's printer).
namespace Go.Proofs.YtpbkdeelkpjccaaDoor.G
open Go.RowKit Go.Proofs.YtpbkdeelkpjccaaDoorW.PrintWords Go.Proofs.YtpbkdeelkpjccaaDoorW.PrintLast Go.Proofs.YtpbkdeelkpjccaaDoorW.PrintMore
attribute [local go_sem] max2_int min2_int max_two min_two max_three min_three max_four min_four   -- for this text's walks alone
set_option linter.unusedVariables false
set_option linter.unusedSimpArgs false
def tag_Right.f (a0 : ByteArray) : Option (Bool) := (tag_Core.f a0).bind fun t1 => (if t1 = true then (some true) else ((tag_own.f a0).bind fun t2 => (some t2)))
set_option maxHeartbeats 8000000 in
set_option maxRecDepth 100000 in
theorem tag_Right.calls (a0 : ByteArray) (r : Bool) (w : World) (h : tag_Right.f a0 = some r) :
    Calls Tryd.prog 49 #[.string a0] w fun e w' => e = .returned (.bool r) ∧ Below w.heap.size w w' := by
  have HB := Aside0.mk (Below.refl w.heap.size w)
  have H : ((tag_Core.f a0).bind fun t1 => (if t1 = true then (some true) else ((tag_own.f a0).bind fun t2 => (some t2)))) = some r := h
  clear h
  replace H := Option.bind_eq_some_iff.mp H
  obtain ⟨t1, A20, H⟩ := H
  replace H : (if t1 = true then (some true) else ((tag_own.f a0).bind fun t2 => (some t2))) = some r := H
  have A2 := Aside0.mk A20
  clear A20
  by_cases c3 : t1 = true
  · subst c3
    have H1 : (some true) = some r := by rw [if_pos rfl] at H; exact H
    clear H
    have H := H1
    clear H1
    obtain rfl := Option.some.inj H
    go_enter Tryd.func49, Tryd.ntmps49
    go_wp2_with (first | ((with_reducible refine gate_callee (f := 57) rfl ?_); refine goesL_ (some 4) rfl rfl Tryd.func57 (by kernel_rfl) rfl #[.string a0] rfl (by (try simp only [List.map_toArray, List.map_cons, List.map_nil]); first | done | rfl | (simp only [List.length_drop, List.length_take]; rfl)) ?_; (with_reducible refine (tag_Core.calls a0 true _ A2.out).mono ?_); rintro e w' ⟨rfl, ⟨nd, rfl⟩⟩; refine ⟨_, rfl, ?_⟩))
    go_ret
    exact ⟨by first | rfl | (simp [errW_none, errW_some] <;> rfl) | (simp [*, errW_none, errW_some] <;> rfl), by repeat (first | (with_reducible first | exact HB.out | apply below_alloc | apply pw_below_drewN | apply below_drew1) | exact HB.out)⟩
  · replace c3 := Bool.eq_false_iff.mpr c3
    subst c3
    have H1 : ((tag_own.f a0).bind fun t2 => (some t2)) = some r := by rw [if_neg (show ¬ (false = true) by decide)] at H; exact H
    clear H
    have H := H1
    clear H1
    replace H := Option.bind_eq_some_iff.mp H
    obtain ⟨t2, A40, H⟩ := H
    replace H : (some t2) = some r := H
    have A4 := Aside0.mk A40
    clear A40
    obtain rfl := Option.some.inj H
    go_enter Tryd.func49, Tryd.ntmps49
    go_wp2_with (first | ((with_reducible refine gate_callee (f := 57) rfl ?_); refine goesL_ (some 4) rfl rfl Tryd.func57 (by kernel_rfl) rfl #[.string a0] rfl (by (try simp only [List.map_toArray, List.map_cons, List.map_nil]); first | done | rfl | (simp only [List.length_drop, List.length_take]; rfl)) ?_; (with_reducible refine (tag_Core.calls a0 false _ A2.out).mono ?_); rintro e w' ⟨rfl, ⟨nd, rfl⟩⟩; refine ⟨_, rfl, ?_⟩) | (go_at_call 72; (with_reducible refine (tag_own.calls a0 t2 _ A4.out).mono ?_); rintro e w5 ⟨rfl, hb⟩; have n0_ := Aside0.mk (below_step (by repeat (first | (with_reducible first | exact HB.out | apply below_alloc | apply pw_below_drewN | apply below_drew1) | exact HB.out)) hb); clear HB; have HB := n0_; clear n0_; (try clear hb); (try clear hb2); (try clear hk); (try clear hi)))
    go_ret
    exact ⟨by first | rfl | (simp [errW_none, errW_some] <;> rfl) | (simp [*, errW_none, errW_some] <;> rfl), by repeat (first | (with_reducible first | exact HB.out | apply below_alloc | apply pw_below_drewN | apply below_drew1) | exact HB.out)⟩
def tag_Right.Pure : Prop := ∀ (a0 : ByteArray), a0.size ≤ 140737488351232 → tag_Right.f a0 = some true
theorem tag_Right.walk (P : tag_Right.Pure) (a0 : ByteArray) (w : World) (w0 : a0.size ≤ 140737488351232) :
    Calls Tryd.prog 49 #[.string a0] w fun e w' => e = .returned (.bool true) ∧ Below w.heap.size w w' := by
  have h := P a0 w0
  refine (tag_Right.calls a0 true w h).mono ?_
  rintro e w' ⟨rfl, hd⟩
  exact ⟨rfl, hd⟩
end Go.Proofs.YtpbkdeelkpjccaaDoor.G
