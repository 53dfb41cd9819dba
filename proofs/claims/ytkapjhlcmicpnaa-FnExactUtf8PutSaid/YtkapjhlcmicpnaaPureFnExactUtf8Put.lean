/- The program's Utf8Put answers as the reference's, for all letters (at most 2^20 of them: longer lists the law itself lets by), and writes into no argument: the law FnExactUtf8Put answers true; no condition. -/
import Derived.Test.YtkapjhlcmicpnaaPFnExactUtf8Putx2
namespace Go.Proofs.Ytkapjhlcmicpnaa.Pure
open Go.RowKit Go.Proofs.Ytkapjhlcmicpnaa.PFnExactUtf8Put Go.Proofs.YtkapjhlcmicpnaaW.PrintWords Go.Proofs.YtkapjhlcmicpnaaW.PrintLast Go.Proofs.YtkapjhlcmicpnaaW.PrintMore
set_option linter.unusedVariables false
set_option linter.unusedSimpArgs false

/-! small lemmas on whole numbers, lists and rounds -/
theorem w64 {x : Int} (h : -9223372036854775808 ≤ x) (h' : x ≤ 9223372036854775807) : wrap64 x = x := by
  unfold wrap64
  omega
theorem in_i64 {x : Int} (h : (Lit.int .i64 x).wf = true) : -9223372036854775808 ≤ x ∧ x ≤ 9223372036854775807 := by
  simpa [Lit.wf, IntKind.min, IntKind.max, IntKind.bits, IntKind.signed] using h
theorem in_u8 {x : Int} (h : (Lit.int .u8 x).wf = true) : 0 ≤ x ∧ x ≤ 255 := by
  simpa [Lit.wf, IntKind.min, IntKind.max, IntKind.bits, IntKind.signed] using h
theorem rd_nat (l : List Int) (i : Nat) : rd l (i : Int) = l.getD i 0 := by
  unfold rd
  rw [Int.toNat_natCast]

/-! lists, place by place: what lies ahead of a place, the place, what lies behind -/
theorem getD_mid {α : Type} (pre : List α) (x : α) (suf : List α) (d : α) : (pre ++ x :: suf).getD ((pre.length : Int)).toNat d = x := by
  rw [Int.toNat_natCast, List.getD_eq_getElem?_getD]
  simp
theorem set_mid {α : Type} (pre : List α) (x y : α) (suf : List α) : (pre ++ x :: suf).set ((pre.length : Int)).toNat y = pre ++ y :: suf := by
  rw [Int.toNat_natCast]
  simp
theorem rd_mid (pre : List Int) (x : Int) (suf : List Int) : rd (pre ++ x :: suf) (pre.length : Int) = x := getD_mid pre x suf 0
theorem len_mid {α : Type} (pre : List α) (x : α) (suf : List α) : (pre.length : Int) < ((pre ++ x :: suf).length : Int) := by
  simp only [List.length_append, List.length_cons]
  omega
theorem len_end {α : Type} (pre : List α) : ¬ (pre.length : Int) < ((pre ++ []).length : Int) := by simp
theorem len_snoc {α : Type} (pre : List α) (x : α) : ((pre ++ [x]).length : Int) = (pre.length : Int) + 1 := by simp
theorem app_cons {α : Type} (pre : List α) (x : α) (suf : List α) : pre ++ x :: suf = (pre ++ [x]) ++ suf := by simp
theorem w64_len {n : Int} (h0 : 0 ≤ n) (h : n ≤ 9000000000000000000) : wrap64 (n + 1) = n + 1 := w64 (by omega) (by omega)

theorem specIn (a b c : Int) : spec_l1In.f a b c = some (decide (b ≤ a ∧ a ≤ c)) := by
  unfold spec_l1In.f
  by_cases h1 : b ≤ a <;> by_cases h2 : a ≤ c <;> simp [h1, h2]

/-- letters that may be clustered -/
def okT (l : List Int) : Bool := decide ((l.length : Int) ≤ 80) && l.all isL
theorem implLettersOk (l : List Int) : impl_lettersOk.f l = some (okT l) := by
  unfold impl_lettersOk.f okT
  congr 2
  induction l with
  | nil => rfl
  | cons x r ih => simp only [List.any_cons, List.all_cons, Bool.not_or, Bool.not_not, ih]
theorem specSize (x : Int) : ∃ n, spec_l1Size.f x = some n ∧ (n = 0 ↔ isL x = false) := by
  unfold spec_l1Size.f isL
  simp only [specIn, Option.bind_some, decide_eq_true_eq]
  by_cases h1 : 0 ≤ x ∧ x ≤ 127
  · exact ⟨1, by rw [if_pos h1], by simp; omega⟩
  by_cases h2 : 128 ≤ x ∧ x ≤ 2047
  · exact ⟨2, by rw [if_neg h1, if_pos h2], by simp; omega⟩
  by_cases h3 : 55296 ≤ x ∧ x ≤ 57343
  · exact ⟨0, by rw [if_neg h1, if_neg h2, if_pos h3], by simp; omega⟩
  by_cases h4 : 2048 ≤ x ∧ x ≤ 65535
  · exact ⟨3, by rw [if_neg h1, if_neg h2, if_neg h3, if_pos h4], by simp; omega⟩
  by_cases h5 : 65536 ≤ x ∧ x ≤ 1114111
  · exact ⟨4, by rw [if_neg h1, if_neg h2, if_neg h3, if_neg h4, if_pos h5], by simp; omega⟩
  · exact ⟨0, by rw [if_neg h1, if_neg h2, if_neg h3, if_neg h4, if_neg h5], by simp; omega⟩
theorem okT_len {l : List Int} (h : okT l = true) : l.length ≤ 80 := by
  unfold okT at h
  simp only [Bool.and_eq_true, decide_eq_true_eq] at h
  omega

theorem isL_in {x : Int} (h : isL x = true) : 0 ≤ x ∧ x ≤ 1114111 ∧ (x < 55296 ∨ 57343 < x) := by
  simpa [isL, and_assoc] using h
/-- a letter's bytes -/
def enc8 (x : Int) : List Int :=
  if x ≤ 127 then [x] else if x ≤ 2047 then [192 + x / 64, 128 + x % 64]
  else if x ≤ 65535 then [224 + x / 4096, 128 + x / 64 % 64, 128 + x % 64]
  else [240 + x / 262144, 128 + x / 4096 % 64, 128 + x / 64 % 64, 128 + x % 64]
theorem enc8_len (x : Int) : 1 ≤ (enc8 x).length ∧ (enc8 x).length ≤ 4 := by
  unfold enc8
  repeat' split
  all_goals simp
theorem implAppend (l : List Int) (x : Int) (hx : isL x = true) (hl : l.length ≤ 100000) (k : Nat) (hk : 2 ≤ k) : utf8_AppendRune.f k l (wrap32 x) = some (l ++ enc8 x) := by
  obtain ⟨h0, h1, h2⟩ := isL_in hx
  obtain ⟨k, rfl⟩ : ∃ m, k = m + 1 := ⟨k - 1, by omega⟩
  have ew : wrap32 x = x := by unfold wrap32; omega
  have em : x % 4294967296 = x := by omega
  rw [ew]
  unfold utf8_AppendRune.f utf8_appendRuneNonASCII.f enc8
  rw [em]
  by_cases c1 : x ≤ 127
  · rw [if_pos c1, if_pos c1, if_pos (by omega), show x % 256 = x from by omega]
  rw [if_neg c1, if_neg c1]
  by_cases c2 : x ≤ 2047
  · rw [if_pos c2, if_pos c2, u8_or192 _ (by omega) (by omega), show x / 64 % 256 = x / 64 from by omega]
    simp only [Option.bind_some, List.length_cons, List.length_nil]
    rw [if_pos (by omega)]
    rfl
  rw [if_neg c2, if_neg c2]
  have key : ∀ b : Bool, (b = true ↔ x ≤ 65535) → utf8_appendRuneNonASCII.j0 (k + 1) l x x b = some (l ++ if x ≤ 65535 then [224 + x / 4096, 128 + x / 64 % 64, 128 + x % 64] else [240 + x / 262144, 128 + x / 4096 % 64, 128 + x / 64 % 64, 128 + x % 64]) := by
    intro b hb
    simp only [utf8_appendRuneNonASCII.j0]
    by_cases c3 : x ≤ 65535
    · rw [if_pos (hb.2 c3), if_pos c3, u8_or224 _ (by omega) (by omega), show x / 4096 % 256 = x / 4096 from by omega]
      simp only [Option.bind_some, List.length_cons, List.length_nil]
      rw [if_pos (by omega)]
    · rw [if_neg (fun g => c3 (hb.1 g)), if_neg c3, if_pos (by omega), if_pos (by omega), u8_or240 _ (by omega) (by omega), show x / 262144 % 256 = x / 262144 from by omega]
      simp only [Option.bind_some, List.length_cons, List.length_nil]
      rw [if_pos (by omega)]
  by_cases c4 : x < 55296
  · rw [if_pos c4, decide_eq_true c4, key true (by simp; omega)]
    rfl
  · rw [if_neg c4, if_pos (by omega), key _ (by simp)]
    rfl
theorem specSizeL (x : Int) (hx : isL x = true) : spec_l1Size.f x = some (if x ≤ 127 then 1 else if x ≤ 2047 then 2 else if x ≤ 65535 then 3 else 4) := by
  obtain ⟨h0, h1, h2⟩ := isL_in hx
  unfold spec_l1Size.f
  simp only [specIn, Option.bind_some, decide_eq_true_eq]
  by_cases c1 : x ≤ 127
  · rw [if_pos (by omega), if_pos c1]
  rw [if_neg (by omega), if_neg c1]
  by_cases c2 : x ≤ 2047
  · rw [if_pos (by omega), if_pos c2]
  rw [if_neg (by omega), if_neg c2, if_neg (by omega)]
  by_cases c3 : x ≤ 65535
  · rw [if_pos (by omega), if_pos c3]
  rw [if_neg (by omega), if_neg c3, if_pos (by omega)]
theorem specPutL (x : Int) (hx : isL x = true) : spec_l1Put.f x = some (strOfNums (enc8 x)) := by
  obtain ⟨h0, h1, h2⟩ := isL_in hx
  have d1 : Int.tdiv x 64 = x / 64 := Int.tdiv_eq_ediv_of_nonneg h0
  have d2 : Int.tdiv x 4096 = x / 4096 := Int.tdiv_eq_ediv_of_nonneg h0
  have d3 : Int.tdiv x 262144 = x / 262144 := Int.tdiv_eq_ediv_of_nonneg h0
  have m1 : Int.tmod x 64 = x % 64 := Int.tmod_eq_emod_of_nonneg h0
  have m2 : Int.tmod (x / 64) 64 = x / 64 % 64 := Int.tmod_eq_emod_of_nonneg (by omega)
  have m3 : Int.tmod (x / 4096) 64 = x / 4096 % 64 := Int.tmod_eq_emod_of_nonneg (by omega)
  have w1 : wrap64 (x / 64) = x / 64 := w64 (by omega) (by omega)
  have w2 : wrap64 (x / 4096) = x / 4096 := w64 (by omega) (by omega)
  have w3 : wrap64 (x / 262144) = x / 262144 := w64 (by omega) (by omega)
  unfold spec_l1Put.f enc8
  rw [specSizeL x hx, d1, d2, d3, m1, w1, w2, w3, m2, m3]
  simp only [Option.bind_some]
  have v1 : wrap64 (128 + x % 64) % 256 = 128 + x % 64 := by rw [w64 (by omega) (by omega)]; omega
  have v2 : wrap64 (128 + x / 64 % 64) % 256 = 128 + x / 64 % 64 := by rw [w64 (by omega) (by omega)]; omega
  have v3 : wrap64 (128 + x / 4096 % 64) % 256 = 128 + x / 4096 % 64 := by rw [w64 (by omega) (by omega)]; omega
  rw [v1, v2, v3]
  by_cases c1 : x ≤ 127
  · simp only [if_pos c1, if_true]
    rw [show x % 256 = x from by omega]
  by_cases c2 : x ≤ 2047
  · simp only [if_neg c1, if_pos c2, if_true]
    rw [if_neg (by omega), w64 (by omega) (by omega), show (192 + x / 64) % 256 = 192 + x / 64 from by omega]
  by_cases c3 : x ≤ 65535
  · simp only [if_neg c1, if_neg c2, if_pos c3, if_true]
    rw [if_neg (by omega), if_neg (by omega), w64 (by omega) (by omega), show (224 + x / 4096) % 256 = 224 + x / 4096 from by omega]
  · simp only [if_neg c1, if_neg c2, if_neg c3, if_true]
    rw [if_neg (by omega), if_neg (by omega), if_neg (by omega), w64 (by omega) (by omega), show (240 + x / 262144) % 256 = 240 + x / 262144 from by omega]
theorem strOfNums_append (a b : List Int) : strOfNums a ++ strOfNums b = strOfNums (a ++ b) := by
  apply ByteArray.ext
  simp [strOfNums, ByteArray.data_append]
def encAll (l : List Int) : List Int := l.flatMap enc8
theorem encAll_len : ∀ l : List Int, (encAll l).length ≤ 4 * l.length
  | [] => Nat.le_refl _
  | x :: l => by
    have := encAll_len l
    have := enc8_len x
    simp only [encAll, List.flatMap_cons, List.length_append, List.length_cons] at *
    omega
theorem implPut_l0 : ∀ (suf pre out : List Int) (k : Nat), (∀ x ∈ suf, isL x = true) → out.length ≤ 4 * pre.length → (pre ++ suf).length ≤ 80 → suf.length + 3 ≤ k →
    impl_Utf8Put.l0 k out (pre ++ suf) ((pre ++ suf).length : Int) (pre.length : Int) = some (strOfNums (out ++ encAll suf))
  | [], pre, out, k, hs, ho, hl, hk => by
    obtain ⟨k, rfl⟩ : ∃ m, k = m + 1 := ⟨k - 1, by simp at hk; omega⟩
    simp only [impl_Utf8Put.l0]
    rw [if_neg (len_end pre)]
    simp [encAll]
  | x :: suf, pre, out, k, hs, ho, hl, hk => by
    obtain ⟨k, rfl⟩ : ∃ m, k = m + 1 := ⟨k - 1, by simp at hk; omega⟩
    have hp : pre.length ≤ 80 := by simp at hl; omega
    have he := enc8_len x
    have ih := implPut_l0 suf (pre ++ [x]) (out ++ enc8 x) k (fun y hy => hs y (List.mem_cons_of_mem _ hy)) (by simp; omega) (by simpa using hl) (by simp at hk; omega)
    rw [len_snoc, ← app_cons] at ih
    simp only [impl_Utf8Put.l0]
    rw [if_pos (len_mid pre x suf), if_pos (by omega), if_pos (len_mid pre x suf), rd_mid, implAppend out x (hs x List.mem_cons_self) (by omega) k (by simp at hk; omega), w64_len (by omega) (by omega)]
    simp only [Option.bind_some]
    rw [ih]
    simp [encAll]
theorem okT_mem {l : List Int} (h : okT l = true) : ∀ x ∈ l, isL x = true := by
  unfold okT at h
  rw [Bool.and_eq_true] at h
  exact List.all_eq_true.1 h.2
def putL (l : List Int) : ByteArray := if okT l = true then strOfNums (encAll l) else ⟨#[]⟩
theorem implPut (l : List Int) (k : Nat) (hk : 100 ≤ k) : impl_Utf8Put.f k l = some (putL l) := by
  unfold impl_Utf8Put.f putL
  rw [implLettersOk]
  simp only [Option.bind_some]
  by_cases h : okT l = true
  · have hl := okT_len h
    rw [if_pos h, if_pos h]
    exact implPut_l0 l [] [] k (okT_mem h) (by simp) (by simpa using hl) (by omega)
  · rw [if_neg h, if_neg h]
def putS (acc : ByteArray) (suf : List Int) (n : Nat) : ByteArray := if suf.all isL = true ∧ n + suf.length ≤ 80 then acc ++ strOfNums (encAll suf) else ⟨#[]⟩
theorem putS_ok (acc : ByteArray) (x : Int) (suf : List Int) (n : Nat) (hx : isL x = true) : putS acc (x :: suf) n = putS (acc ++ strOfNums (enc8 x)) suf (n + 1) := by
  unfold putS
  by_cases h : suf.all isL = true ∧ n + 1 + suf.length ≤ 80
  · rw [if_pos h, if_pos ⟨by rw [List.all_cons, hx, h.1]; rfl, by rw [List.length_cons]; omega⟩, ByteArray.append_assoc, strOfNums_append]
    rfl
  · rw [if_neg h, if_neg (fun g => h ⟨by have := g.1; rw [List.all_cons, hx] at this; exact this, by have := g.2; rw [List.length_cons] at this; omega⟩)]
theorem putS_bad (acc : ByteArray) (x : Int) (suf : List Int) (n : Nat) (hx : ¬ isL x = true) : putS acc (x :: suf) n = ⟨#[]⟩ := by
  unfold putS
  rw [if_neg (fun g => hx (by have := g.1; rw [List.all_cons, Bool.and_eq_true] at this; exact this.1))]
theorem putS_far (acc : ByteArray) (x : Int) (suf : List Int) (n : Nat) (hn : 80 ≤ n) : putS acc (x :: suf) n = ⟨#[]⟩ := by
  unfold putS
  rw [if_neg (fun g => by have := g.2; rw [List.length_cons] at this; omega)]
theorem append_none (a : ByteArray) : a ++ (⟨#[]⟩ : ByteArray) = a := by
  apply ByteArray.ext
  rw [ByteArray.data_append]
  simp
theorem specPut_l0 : ∀ (suf pre : List Int) (acc : ByteArray) (k : Nat), pre.length ≤ 80 → acc.size ≤ 4 * pre.length → suf.length ≤ 1048576 → suf.length + 1 ≤ k →
    spec_Utf8Put.l0 k (pre ++ suf) acc (pre.length : Int) = some (putS acc suf pre.length)
  | [], pre, acc, k, hp, ha, hl, hk => by
    obtain ⟨k, rfl⟩ : ∃ m, k = m + 1 := ⟨k - 1, by simp at hk; omega⟩
    simp only [spec_Utf8Put.l0]
    rw [if_neg (len_end pre)]
    unfold putS
    rw [if_pos ⟨rfl, by simpa using hp⟩]
    exact congrArg some (append_none acc).symm
  | x :: suf, pre, acc, k, hp, ha, hl, hk => by
    obtain ⟨k, rfl⟩ : ∃ m, k = m + 1 := ⟨k - 1, by simp at hk; omega⟩
    obtain ⟨n, e, hn⟩ := specSize x
    simp only [spec_Utf8Put.l0]
    rw [if_pos (len_mid pre x suf), if_pos (by omega), rd_mid, e]
    simp only [Option.bind_some]
    by_cases hx : isL x = true
    · rw [if_neg (fun g => by rw [hn.1 g] at hx; cases hx)]
      by_cases h80 : (pre.length : Int) ≥ 80
      · rw [if_pos h80, putS_far _ _ _ _ (by omega)]
      · have he := enc8_len x
        have ih := specPut_l0 suf (pre ++ [x]) (acc ++ strOfNums (enc8 x)) k (by simp; omega) (by rw [ByteArray.size_append, strOfNums_size]; simp; omega) (by simp at hl; omega) (by simp at hk; omega)
        rw [len_snoc, ← app_cons] at ih
        rw [if_neg h80, specPutL x hx]
        simp only [Option.bind_some]
        rw [strOfNums_size, if_pos (by omega), w64_len (by omega) (by omega), ih, putS_ok _ _ _ _ hx]
        simp
    · rw [if_pos (hn.2 (by simpa using hx)), putS_bad _ _ _ _ hx]
theorem specPut (l : List Int) (hl : l.length ≤ 1048576) (k : Nat) (hk : l.length + 1 ≤ k) : spec_Utf8Put.f k l = some (putL l) := by
  unfold spec_Utf8Put.f putL
  have e : spec_Utf8Put.l0 k l ⟨#[]⟩ 0 = some (putS ⟨#[]⟩ l 0) := specPut_l0 l [] ⟨#[]⟩ k (by simp) (Nat.le_refl 0) hl hk
  rw [e]
  congr 1
  unfold okT putS
  by_cases h : l.all isL = true ∧ 0 + l.length ≤ 80
  · rw [if_pos h, if_pos (by rw [h.1, Bool.and_true, decide_eq_true_eq]; omega)]
    apply ByteArray.ext
    rw [ByteArray.data_append]
    simp
  · rw [if_neg h, if_neg (fun g => h (by rw [Bool.and_eq_true, decide_eq_true_eq] at g; exact ⟨g.2, by omega⟩))]

theorem toIntS_l0 : ∀ (suf pre rest : List Int) (k : Nat), rest.length = suf.length → (pre ++ suf).length ≤ 1048576 → suf.length + 1 ≤ k → laws_toIntS.l0 k (pre ++ suf) (pre ++ rest) (pre.length : Int) = some (pre ++ suf)
  | [], pre, rest, k, hr, hl, hk => by
    obtain ⟨k, rfl⟩ : ∃ m, k = m + 1 := ⟨k - 1, by simp at hk; omega⟩
    obtain rfl : rest = [] := List.eq_nil_of_length_eq_zero (by simpa using hr)
    simp only [laws_toIntS.l0]
    rw [if_neg (len_end pre)]
  | x :: suf, pre, [], k, hr, hl, hk => by simp at hr
  | x :: suf, pre, y :: rest, k, hr, hl, hk => by
    obtain ⟨k, rfl⟩ : ∃ m, k = m + 1 := ⟨k - 1, by simp at hk; omega⟩
    simp only [laws_toIntS.l0]
    have hp : (pre.length : Int) ≤ 1048576 := by simp at hl; omega
    rw [if_pos (len_mid pre x suf), if_pos (by omega), if_pos (len_mid pre y rest), rd_mid, set_mid, w64_len (by omega) (by omega), ← len_snoc pre x, app_cons pre x suf, app_cons pre x rest]
    exact toIntS_l0 suf (pre ++ [x]) rest k (by simpa using hr) (by simpa using hl) (by simp at hk; omega)
theorem toIntS_ok (l : List Int) (hl : l.length ≤ 1048576) (k : Nat) (hk : l.length + 1 ≤ k) : laws_toIntS.f k l = some l := by
  unfold laws_toIntS.f
  rw [if_pos (by omega), if_pos (by omega), Int.toNat_natCast]
  exact toIntS_l0 l [] (List.replicate l.length 0) k (by simp) (by simpa using hl) hk

theorem eqIntS_l0 : ∀ (suf pre : List Int) (k : Nat), (pre ++ suf).length ≤ 4000000 → suf.length + 1 ≤ k → laws_eqIntS.l0 k (pre ++ suf) (pre ++ suf) (pre.length : Int) = some true
  | [], pre, k, hl, hk => by
    obtain ⟨k, rfl⟩ : ∃ m, k = m + 1 := ⟨k - 1, by simp at hk; omega⟩
    simp only [laws_eqIntS.l0]
    rw [if_neg (len_end pre)]
  | x :: suf, pre, k, hl, hk => by
    obtain ⟨k, rfl⟩ : ∃ m, k = m + 1 := ⟨k - 1, by simp at hk; omega⟩
    simp only [laws_eqIntS.l0]
    have hp : (pre.length : Int) ≤ 4000000 := by simp at hl; omega
    rw [if_pos (len_mid pre x suf), if_pos (by omega), if_pos (len_mid pre x suf), if_pos trivial, w64_len (by omega) (by omega), ← len_snoc pre x, app_cons pre x suf]
    exact eqIntS_l0 suf (pre ++ [x]) k (by simpa using hl) (by simp at hk; omega)
theorem eqIntS_ok (l : List Int) (hl : l.length ≤ 4000000) (k : Nat) (hk : l.length + 1 ≤ k) : laws_eqIntS.f k l l = some true := by
  unfold laws_eqIntS.f
  rw [if_pos rfl]
  exact eqIntS_l0 l [] k (by simpa using hl) hk

theorem FnExactUtf8Put : laws_FnExactUtf8Put.Pure := by
  intro l _ _ hw
  unfold laws_FnExactUtf8Put.f
  by_cases hb : l.length ≤ 1048576
  · refine ⟨l.length + 1000, ?_⟩
    rw [if_neg (by omega), toIntS_ok l hb _ (by omega)]
    simp only [Option.bind_some]
    rw [specPut l hb _ (by omega), implPut l _ (by omega)]
    simp only [Option.bind_some, if_true]
    rw [eqIntS_ok l (by omega) _ (by omega)]
    simp
  · refine ⟨0, ?_⟩
    rw [if_pos (by omega)]

end Go.Proofs.Ytkapjhlcmicpnaa.Pure
