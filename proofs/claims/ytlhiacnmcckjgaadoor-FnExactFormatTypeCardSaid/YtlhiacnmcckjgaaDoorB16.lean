/- Texts of grades and of types. -/
import Derived.Test.YtlhiacnmcckjgaaDoorPf5
import Derived.Test.YtlhiacnmcckjgaaDoorPf19
import Derived.Lib.LazyBuf
import Derived.Test.YtlhiacnmcckjgaaDoorB5
set_option linter.unusedSimpArgs false
set_option linter.unusedVariables false
namespace Go.Proofs.YtlhiacnmcckjgaaDoor.Pure
open Go.RowKit Go.Proofs.YtlhiacnmcckjgaaDoor.P Go.Proofs.YtlhiacnmcckjgaaDoorW.PrintWords Go.Proofs.YtlhiacnmcckjgaaDoorW.PrintLast
theorem str_one (n : Nat) (h : n < 10) : strOfNums [(wrap64 (48 + Int.tmod (n : Int) 10)) % 256] = (⟨[UInt8.ofNat (48 + n)].toArray⟩ : ByteArray) := by
  have e : (wrap64 (48 + Int.tmod (n : Int) 10)) % 256 = (((UInt8.ofNat (48 + n)).toNat : Nat) : Int) := by
    have h1 : Int.tmod (n : Int) 10 = (n : Int) := by rw [Int.tmod_eq_emod_of_nonneg (by omega)]; omega
    rw [h1, w64 (by omega) (by omega)]
    have : (UInt8.ofNat (48 + n)).toNat = 48 + n := by rw [UInt8.toNat_ofNat']; omega
    rw [this]; omega
  rw [e]
  exact Go.Lib.Lz.strOfNums_map [UInt8.ofNat (48 + n)]
theorem decimalE : ∀ (n : Nat), n ≤ 1048576 → Ev (fun k => spec_l1Decimal.f k (n : Int)) (⟨(Go.Lib.decDigits n).toArray⟩ : ByteArray) ∧ (Go.Lib.decDigits n).length ≤ n + 1 := by
  intro n
  induction n using Nat.strongRecOn with
  | _ n ih =>
  intro hn
  by_cases c : n < 10
  · have e : Go.Lib.decDigits n = [UInt8.ofNat (48 + n)] := by rw [Go.Lib.decDigits, dif_pos c]
    rw [e]
    refine ⟨Ev.step (f := fun _ => some (⟨[UInt8.ofNat (48 + n)].toArray⟩ : ByteArray)) (fun k => ?_) (Ev.now _), by simp⟩
    simp only [spec_l1Decimal.f, Option.bind_some]
    rw [if_neg (by omega), str_one n c]
  · obtain ⟨E, hs⟩ := ih (n / 10) (by omega) (by omega)
    have e : Go.Lib.decDigits n = Go.Lib.decDigits (n / 10) ++ [UInt8.ofNat (48 + n % 10)] := by rw [Go.Lib.decDigits, dif_neg c]
    rw [e]
    refine ⟨Ev.step (f := fun k => (spec_l1Decimal.f k ((n / 10 : Nat) : Int)).bind fun t => some (t ++ (⟨[UInt8.ofNat (48 + n % 10)].toArray⟩ : ByteArray))) (fun k => ?_) ?_, by rw [List.length_append, List.length_singleton]; omega⟩
    · simp only [spec_l1Decimal.f, Option.bind_some]
      have hm : Int.tmod (n : Int) 10 = Int.tmod ((n % 10 : Nat) : Int) 10 := by rw [Int.tmod_eq_emod_of_nonneg (by omega), Int.tmod_eq_emod_of_nonneg (by omega)]; omega
      have hd : wrap64 (Int.tdiv (n : Int) 10) = ((n / 10 : Nat) : Int) := by rw [Int.tdiv_eq_ediv_of_nonneg (by omega), w64 (by omega) (by omega)]; omega
      rw [if_pos (by omega), hm, str_one (n % 10) (by omega), hd]
      cases c2 : spec_l1Decimal.f k ((n / 10 : Nat) : Int) with
      | none => rfl
      | some t =>
        simp only [Option.bind_some]
        have ht : t = (⟨(Go.Lib.decDigits (n / 10)).toArray⟩ : ByteArray) := by
          obtain ⟨K, hK⟩ := E
          have mono : ∀ (k : Nat) (a : Int) (r : ByteArray), spec_l1Decimal.f k a = some r → spec_l1Decimal.f (k + 1) a = some r := by
            intro k
            induction k with
            | zero => intro a r h; cases h
            | succ k ih2 =>
              intro a r h
              simp only [spec_l1Decimal.f, Option.bind_some] at h ⊢
              by_cases q : a ≥ 10
              · rw [if_pos q] at h ⊢
                obtain ⟨t1, h1, h2⟩ := Option.bind_eq_some_iff.mp h
                have h3 := ih2 _ _ h1
                simp only [spec_l1Decimal.f, Option.bind_some] at h3
                rw [h3, Option.bind_some]
                exact h2
              · rw [if_neg q] at h ⊢; exact h
          have up : ∀ j, spec_l1Decimal.f (k + j) ((n / 10 : Nat) : Int) = some t := by
            intro j
            induction j with
            | zero => exact c2
            | succ j ihj => exact mono _ _ _ ihj
          have := up K
          have h2 : spec_l1Decimal.f (k + K) ((n / 10 : Nat) : Int) = some _ := hK (k + K) (by omega)
          rw [h2] at this
          exact (Option.some.inj this).symm
        have sz : t.size ≤ 1048577 := by rw [ht]; show (Go.Lib.decDigits (n / 10)).toArray.size ≤ _; rw [List.size_toArray]; omega
        have s1 : (⟨[UInt8.ofNat (48 + n % 10)].toArray⟩ : ByteArray).size = 1 := rfl
        rw [if_pos (by rw [s1]; omega)]
    · refine Ev.bind E ?_
      have app : (⟨(Go.Lib.decDigits (n / 10)).toArray⟩ : ByteArray) ++ (⟨[UInt8.ofNat (48 + n % 10)].toArray⟩ : ByteArray) = (⟨(Go.Lib.decDigits (n / 10) ++ [UInt8.ofNat (48 + n % 10)]).toArray⟩ : ByteArray) := by
        apply ByteArray.ext; simp [ByteArray.data_append]
      rw [app]
      exact Ev.now _
def gtext (g : Int) : ByteArray := if g < 0 then (⟨#[63]⟩ : ByteArray) else (⟨(Go.Lib.decDigits g.toNat).toArray⟩ : ByteArray)
theorem gtext_size {g : Int} (h1 : -1 ≤ g) (h2 : g ≤ 15) : (gtext g).size ≤ 17 := by
  unfold gtext
  split
  · decide
  · have := (decimalE g.toNat (by omega)).2
    show (Go.Lib.decDigits g.toNat).toArray.size ≤ _
    rw [List.size_toArray]; omega
theorem specGrade {g : Int} (h1 : -1 ≤ g) (h2 : g ≤ 15) : Ev (fun k => spec_l2GradeText.f k g) (gtext g) := by
  unfold spec_l2GradeText.f gtext
  by_cases c : g < 0
  · simp only [if_pos c]; exact Ev.now _
  · simp only [if_neg c, Option.bind_fun_some]
    obtain ⟨n, rfl⟩ := Int.eq_ofNat_of_zero_le (show 0 ≤ g by omega)
    exact (decimalE n (by omega)).1
theorem implGrade {g : Int} (h1 : -1 ≤ g) (h2 : g ≤ 15) : impl_gradeText.f g = some (gtext g) := by
  unfold impl_gradeText.f gtext
  by_cases c : g < 0
  · simp only [if_pos c]
  · have : ∀ x, strconv_Itoa_43.f x = if 0 ≤ x then (if x < 100 then some (⟨(Go.Lib.decDigits x.toNat).toArray⟩ : ByteArray) else none) else none := fun _ => rfl
    rw [if_neg c, if_neg c, this, if_pos (by omega), if_pos (by omega), Option.bind_some]
/-- The text of a code. -/
def ctext (c : Int) : ByteArray := if c = 0 then (⟨#[110]⟩ : ByteArray) else if c = 1 then (⟨#[42]⟩ : ByteArray) else if c = 2 then (⟨#[43]⟩ : ByteArray) else if (3 ≤ c ∧ c ≤ 18) ∨ c = 35 then ((⟨#[62]⟩ : ByteArray) ++ gtext (shapeV c).2) ++ (⟨#[46]⟩ : ByteArray) else ((⟨#[33]⟩ : ByteArray) ++ gtext (shapeV c).2) ++ (⟨#[46]⟩ : ByteArray)
theorem kids_code {c : Int} (h : 0 ≤ kidsV c) : 0 ≤ c ∧ c ≤ 36 := by unfold kidsV at h; repeat' split at h <;> omega
theorem shape_grade {c : Int} (h : 0 ≤ kidsV c) : -1 ≤ (shapeV c).2 ∧ (shapeV c).2 ≤ 15 := by
  have := kids_code h
  unfold shapeV; repeat' split
  all_goals (simp; try omega)
theorem ctext_size {c : Int} (h : 0 ≤ kidsV c) : (ctext c).size ≤ 19 := by
  have g := gtext_size (shape_grade h).1 (shape_grade h).2
  unfold ctext
  repeat' split
  all_goals first | decide | (rw [ByteArray.size_append, ByteArray.size_append]; have e1 : (⟨#[62]⟩ : ByteArray).size = 1 := rfl; have e2 : (⟨#[46]⟩ : ByteArray).size = 1 := rfl; have e3 : (⟨#[33]⟩ : ByteArray).size = 1 := rfl; omega)
theorem implCode {c : Int} (h : 0 ≤ kidsV c) : impl_codeText.f c = some (ctext c) := by
  have hc := kids_code h
  have hg := shape_grade h
  have g := gtext_size hg.1 hg.2
  have e1 : (⟨#[62]⟩ : ByteArray).size = 1 := rfl
  have e2 : (⟨#[33]⟩ : ByteArray).size = 1 := rfl
  have b1 : 1 + (gtext (shapeV c).2).size ≤ 9223372036854775807 := by omega
  have b2 : ((⟨#[62]⟩ : ByteArray) ++ gtext (shapeV c).2).size + 1 ≤ 9223372036854775807 := by rw [ByteArray.size_append, e1]; omega
  have b3 : ((⟨#[33]⟩ : ByteArray) ++ gtext (shapeV c).2).size + 1 ≤ 9223372036854775807 := by rw [ByteArray.size_append, e2]; omega
  unfold impl_codeText.f
  rw [shape_eq, Option.bind_some, implGrade hg.1 hg.2]
  simp only [Option.bind_some, if_pos b1, if_pos b2, if_pos b3]
  unfold ctext
  by_cases c0 : c = 0
  · subst c0; rfl
  by_cases c1 : c = 1
  · subst c1; rfl
  by_cases c2 : c = 2
  · subst c2; rfl
  rw [if_neg c0, if_neg c1, if_neg c2]
  by_cases c3 : (3 ≤ c ∧ c ≤ 18) ∨ c = 35
  · have s : (shapeV c).1 = 3 := by
      unfold shapeV
      rw [if_neg (by omega)]
      by_cases q : 3 ≤ c ∧ c ≤ 18
      · rw [if_pos q]
      · rw [if_neg q, if_neg (by omega), if_pos (by omega)]
    rw [if_pos c3, s]; rfl
  · have s : (shapeV c).1 = 4 := by
      unfold shapeV; rw [if_neg (by omega), if_neg (by omega)]
      by_cases c4 : 19 ≤ c ∧ c ≤ 34
      · rw [if_pos c4]
      · rw [if_neg c4, if_neg (by omega), if_pos (by omega)]
    rw [if_neg c3, s]; rfl
/-- The text of m codes from place i on. -/
def ttext (xs : List Int) : Nat → Int → ByteArray
  | 0, _ => (⟨#[]⟩ : ByteArray)
  | m + 1, i => ctext (rd xs i) ++ ttext xs m (i + 1)
theorem nil_app (a : ByteArray) : a ++ (⟨#[]⟩ : ByteArray) = a := ByteArray.append_empty
theorem app_nil (a : ByteArray) : (⟨#[]⟩ : ByteArray) ++ a = a := ByteArray.empty_append
theorem eat_kids (xs : List Int) : ∀ (m : Nat) (d i : Int), 0 ≤ i → eat xs m d i ≠ -1 → ∀ j, i ≤ j → j < eat xs m d i → 0 ≤ kidsV (rd xs j)
  | 0, d, i, h, he, j, h1, h2 => absurd rfl he
  | m + 1, d, i, h, he, j, h1, h2 => by
    unfold eat at he h2
    by_cases c : kidsV (rd xs i) < 0
    · rw [if_pos c] at he; exact absurd rfl he
    · rw [if_neg c] at he h2
      by_cases q : j = i
      · rw [q]; omega
      · by_cases c1 : d - 1 + kidsV (rd xs i) = 0
        · rw [if_pos c1] at h2; omega
        · rw [if_neg c1] at he h2
          exact eat_kids xs m _ (i + 1) (by omega) he j (by omega) h2
theorem written_kids {xs : List Int} (h : writtenV xs = true) : 1 ≤ xs.length ∧ xs.length ≤ 40 ∧ ∀ j : Int, 0 ≤ j → j < xs.length → 0 ≤ kidsV (rd xs j) := by
  unfold writtenV at h
  rw [Bool.and_eq_true, decide_eq_true_eq, inV_iff] at h
  refine ⟨by omega, by omega, fun j h1 h2 => eat_kids xs xs.length 1 0 (by omega) (by rw [h.2]; omega) j h1 (by rw [h.2]; exact h2)⟩
theorem ttext_size (xs : List Int) : ∀ (m : Nat) (i : Int), 0 ≤ i → i + m ≤ xs.length → (∀ j : Int, 0 ≤ j → j < xs.length → 0 ≤ kidsV (rd xs j)) → (ttext xs m i).size ≤ 19 * m
  | 0, i, _, _, _ => Nat.le_refl _
  | m + 1, i, h0, h1, h => by
    have a := ctext_size (h i h0 (by omega))
    have b := ttext_size xs m (i + 1) (by omega) (by omega) h
    unfold ttext; rw [ByteArray.size_append]; omega
theorem specText {xs : List Int} (hl : xs.length ≤ 40) (hk : ∀ j : Int, 0 ≤ j → j < xs.length → 0 ≤ kidsV (rd xs j)) : ∀ (m : Nat) (acc : ByteArray) (i : Int), 0 ≤ i → i + m = xs.length → (acc.size : Int) ≤ 19 * i → Ev (fun k => spec_FormatType.l0 k xs acc i) (acc ++ ttext xs m i)
  | 0, acc, i, h0, h1, ha => by
    rw [show ttext xs 0 i = (⟨#[]⟩ : ByteArray) from rfl, nil_app]
    refine Ev.step (f := fun _ => some acc) (fun k => ?_) (Ev.now _)
    simp only [spec_FormatType.l0]; rw [if_neg (by omega)]
  | m + 1, acc, i, h0, h1, ha => by
    have i1 : i < (xs.length : Int) := by omega
    have hc := hk i h0 i1
    have cc := kids_code hc
    have hg := shape_grade hc
    have gs := gtext_size hg.1 hg.2
    have cs := ctext_size hc
    have ih := specText hl hk m (acc ++ ctext (rd xs i)) (i + 1) (by omega) (by omega) (by rw [ByteArray.size_append]; omega)
    have sg := specGrade hg.1 hg.2
    have up : wrap64 (i + 1) = i + 1 := w64 (by omega) (by omega)
    rw [show acc ++ ttext xs (m + 1) i = (acc ++ ctext (rd xs i)) ++ ttext xs m (i + 1) from by rw [show ttext xs (m + 1) i = ctext (rd xs i) ++ ttext xs m (i + 1) from rfl, ByteArray.append_assoc]]
    obtain ⟨K, hK⟩ := ih
    obtain ⟨G, hG⟩ := sg
    have e62 : (⟨#[62]⟩ : ByteArray).size = 1 := rfl
    have e33 : (⟨#[33]⟩ : ByteArray).size = 1 := rfl
    refine ⟨K + G + 1, fun k hk2 => ?_⟩
    obtain ⟨k, rfl⟩ : ∃ q, k = q + 1 := ⟨k - 1, by omega⟩
    have hK' : spec_FormatType.l0 k xs (acc ++ ctext (rd xs i)) (i + 1) = some ((acc ++ ctext (rd xs i)) ++ ttext xs m (i + 1)) := hK k (by omega)
    have hG' : spec_l2GradeText.f k (shapeV (rd xs i)).2 = some (gtext (shapeV (rd xs i)).2) := hG k (by omega)
    rw [← hK']
    show spec_FormatType.l0 (k + 1) xs acc i = _
    simp only [spec_FormatType.l0]
    have b0 : acc.size + 1 ≤ 9223372036854775807 := by omega
    simp only [if_pos i1, if_pos h0, up, if_pos b0]
    generalize hx : rd xs i = c at *
    unfold ctext
    by_cases c0 : c = 0
    · rw [if_pos c0, if_pos c0]
    rw [if_neg c0, if_neg c0]
    by_cases c1 : c = 1
    · rw [if_pos c1, if_pos c1]
    rw [if_neg c1, if_neg c1]
    by_cases c2 : c = 2
    · rw [if_pos c2, if_pos c2]
    rw [if_neg c2, if_neg c2]
    have lg : spec_l2Grade.f c = some (shapeV c).2 := by
      unfold spec_l2Grade.f shapeV
      rw [if_neg (show ¬ (0 ≤ c ∧ c ≤ 2) by omega)]
      by_cases q : c ≥ 35
      · rw [if_pos q, if_neg (by omega), if_neg (by omega)]
        by_cases q1 : c = 35
        · rw [if_pos q1]
        · rw [if_neg q1, if_pos (by omega)]
      · rw [if_neg q]
        by_cases q1 : c ≥ 19
        · rw [if_pos q1, if_neg (by omega), if_pos (by omega), w64 (by omega) (by omega)]
        · rw [if_neg q1, if_pos (by omega), w64 (by omega) (by omega)]
    have la : spec_l2Arrow.f c = some (decide ((3 ≤ c ∧ c ≤ 18) ∨ c = 35)) := by
      unfold spec_l2Arrow.f
      rw [in_eq, Option.bind_some]
      by_cases q : 3 ≤ c ∧ c ≤ 18
      · rw [(inV_iff _ _ _).mpr q, if_pos rfl, decide_eq_true (Or.inl q)]
      · have e : inV c 3 18 = false := by rw [Bool.eq_false_iff]; exact fun hh => q ((inV_iff _ _ _).mp hh)
        rw [e, if_neg (by decide)]
        by_cases q1 : c = 35
        · rw [decide_eq_true (Or.inr q1), beq_iff_eq.mpr q1]
        · rw [decide_eq_false (by rintro (h | h); exact q h; exact q1 h), beq_eq_false_iff_ne.mpr q1]
    have z1 : ∀ a : ByteArray, a.size = 1 → (acc ++ a).size = acc.size + 1 := fun a h => by rw [ByteArray.size_append, h]
    have b4 : (acc ++ (⟨#[62]⟩ : ByteArray)).size + (gtext (shapeV c).2).size ≤ 9223372036854775807 := by rw [z1 _ e62]; omega
    have b5 : ((acc ++ (⟨#[62]⟩ : ByteArray)) ++ gtext (shapeV c).2).size + 1 ≤ 9223372036854775807 := by rw [ByteArray.size_append, z1 _ e62]; omega
    have b6 : (acc ++ (⟨#[33]⟩ : ByteArray)).size + (gtext (shapeV c).2).size ≤ 9223372036854775807 := by rw [z1 _ e33]; omega
    have b7 : ((acc ++ (⟨#[33]⟩ : ByteArray)) ++ gtext (shapeV c).2).size + 1 ≤ 9223372036854775807 := by rw [ByteArray.size_append, z1 _ e33]; omega
    simp only [la, lg, hG', Option.bind_some, if_pos b4, if_pos b5, if_pos b6, if_pos b7]
    by_cases c3 : (3 ≤ c ∧ c ≤ 18) ∨ c = 35
    · rw [if_pos (decide_eq_true c3), if_pos c3]
      simp only [ByteArray.append_assoc]
    · rw [if_neg (by rw [decide_eq_false c3]; decide), if_neg c3]
      simp only [ByteArray.append_assoc]
theorem implText {xs : List Int} (hl : xs.length ≤ 40) (hk : ∀ j : Int, 0 ≤ j → j < xs.length → 0 ≤ kidsV (rd xs j)) : ∀ (m : Nat) (acc : ByteArray) (i : Int), 0 ≤ i → i + m = xs.length → (acc.size : Int) ≤ 19 * i → Ev (fun k => impl_typeText.l0 k xs acc i) (acc ++ ttext xs m i)
  | 0, acc, i, h0, h1, ha => by
    rw [show ttext xs 0 i = (⟨#[]⟩ : ByteArray) from rfl, nil_app]
    refine Ev.step (f := fun _ => some acc) (fun k => ?_) (Ev.now _)
    simp only [impl_typeText.l0]; rw [if_neg (by omega)]
  | m + 1, acc, i, h0, h1, ha => by
    have i1 : i < (xs.length : Int) := by omega
    have hc := hk i h0 i1
    have cs := ctext_size hc
    have ih := implText hl hk m (acc ++ ctext (rd xs i)) (i + 1) (by omega) (by omega) (by rw [ByteArray.size_append]; omega)
    rw [show acc ++ ttext xs (m + 1) i = (acc ++ ctext (rd xs i)) ++ ttext xs m (i + 1) from by rw [show ttext xs (m + 1) i = ctext (rd xs i) ++ ttext xs m (i + 1) from rfl, ByteArray.append_assoc]]
    refine Ev.step (fun k => ?_) ih
    simp only [impl_typeText.l0]
    rw [if_pos i1, if_pos h0, implCode hc, Option.bind_some, if_pos (by omega), w64 (x := i + 1) (by omega) (by omega)]
/-- The text of a written type. -/
def typeV (xs : List Int) : ByteArray := ttext xs xs.length 0
theorem typeTextE {xs : List Int} (h : writtenV xs = true) : Ev (fun k => impl_typeText.f k xs) (typeV xs) := by
  obtain ⟨h1, h2, h3⟩ := written_kids h
  have := implText h2 h3 xs.length (⟨#[]⟩ : ByteArray) 0 (by omega) (by omega) (by decide)
  rw [app_nil] at this
  exact this
theorem specTypeE (xs : List Int) (hl : xs.length ≤ 1048576) : Ev (fun k => spec_FormatType.f k xs) (if writtenV xs = true then typeV xs else (⟨#[]⟩ : ByteArray)) := by
  unfold spec_FormatType.f
  refine Ev.bind (specWritten xs hl) ?_
  cases c : writtenV xs
  · simpa using Ev.now (⟨#[]⟩ : ByteArray)
  · simp only [if_true]
    obtain ⟨h1, h2, h3⟩ := written_kids c
    have := specText h2 h3 xs.length (⟨#[]⟩ : ByteArray) 0 (by omega) (by omega) (by decide)
    rw [app_nil] at this
    exact this
theorem typeV_size {xs : List Int} (h : writtenV xs = true) : (typeV xs).size ≤ 760 := by
  obtain ⟨h1, h2, h3⟩ := written_kids h
  have := ttext_size xs xs.length 0 (by omega) (by omega) h3
  unfold typeV; omega
end Go.Proofs.YtlhiacnmcckjgaaDoor.Pure
