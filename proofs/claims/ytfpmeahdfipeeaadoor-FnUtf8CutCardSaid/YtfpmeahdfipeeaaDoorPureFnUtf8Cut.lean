/- Of two drawn texts that are ones, not too long together, the letters of the one behind the other are the one's letters and behind them the other's; a text that is cut ahead of a byte within a letter is none; else Utf8Get answers as the reference's: the law FnUtf8Cut answers true, by a tied card; condition: utf8's two tables hold what the program's text lays (the given tie). -/
import Derived.Test.YtfpmeahdfipeeaaDoorPFnUtf8Cutx5
namespace Go.Proofs.YtfpmeahdfipeeaaDoor.Pure
open Go.RowKit Go.Proofs.YtfpmeahdfipeeaaDoor.PFnUtf8Cut Go.Proofs.YtfpmeahdfipeeaaDoorW.PrintWords Go.Proofs.YtfpmeahdfipeeaaDoorW.PrintLast Go.Proofs.YtfpmeahdfipeeaaDoorW.PrintMore
set_option linter.unusedVariables false
set_option linter.unusedSimpArgs false

/-- a letter (a law that does not reach impl.lettersOk) -/
def isL (x : Int) : Bool := decide (0 ≤ x) && decide (x ≤ 1114111) && (decide (x < 55296) || decide (57343 < x))

/-! small lemmas on whole numbers, lists and rounds -/
theorem w64 {x : Int} (h : -9223372036854775808 ≤ x) (h' : x ≤ 9223372036854775807) : wrap64 x = x := by
  unfold wrap64
  omega
theorem in_i64 {x : Int} (h : (Lit.int .i64 x).wf = true) : -9223372036854775808 ≤ x ∧ x ≤ 9223372036854775807 := by
  simpa [Lit.wf, IntKind.min, IntKind.max, IntKind.bits, IntKind.signed] using h
theorem in_u8 {x : Int} (h : (Lit.int .u8 x).wf = true) : 0 ≤ x ∧ x ≤ 255 := by
  simpa [Lit.wf, IntKind.min, IntKind.max, IntKind.bits, IntKind.signed] using h
theorem rd_nat (l : List Int) (i : Nat) : rd l (i : Int) = l.getD i 0 := by
  unfold rd
  rw [Int.toNat_natCast]

/-! lists, place by place: what lies ahead of a place, the place, what lies behind -/
theorem getD_mid {α : Type} (pre : List α) (x : α) (suf : List α) (d : α) : (pre ++ x :: suf).getD ((pre.length : Int)).toNat d = x := by
  rw [Int.toNat_natCast, List.getD_eq_getElem?_getD]
  simp
theorem set_mid {α : Type} (pre : List α) (x y : α) (suf : List α) : (pre ++ x :: suf).set ((pre.length : Int)).toNat y = pre ++ y :: suf := by
  rw [Int.toNat_natCast]
  simp
theorem rd_mid (pre : List Int) (x : Int) (suf : List Int) : rd (pre ++ x :: suf) (pre.length : Int) = x := getD_mid pre x suf 0
theorem len_mid {α : Type} (pre : List α) (x : α) (suf : List α) : (pre.length : Int) < ((pre ++ x :: suf).length : Int) := by
  simp only [List.length_append, List.length_cons]
  omega
theorem len_end {α : Type} (pre : List α) : ¬ (pre.length : Int) < ((pre ++ []).length : Int) := by simp
theorem len_snoc {α : Type} (pre : List α) (x : α) : ((pre ++ [x]).length : Int) = (pre.length : Int) + 1 := by simp
theorem app_cons {α : Type} (pre : List α) (x : α) (suf : List α) : pre ++ x :: suf = (pre ++ [x]) ++ suf := by simp
theorem w64_len {n : Int} (h0 : 0 ≤ n) (h : n ≤ 9000000000000000000) : wrap64 (n + 1) = n + 1 := w64 (by omega) (by omega)

theorem specIn (a b c : Int) : spec_l1In.f a b c = some (decide (b ≤ a ∧ a ≤ c)) := by
  unfold spec_l1In.f
  by_cases h1 : b ≤ a <;> by_cases h2 : a ≤ c <;> simp [h1, h2]

/-- letters that may be clustered -/
def okT (l : List Int) : Bool := decide ((l.length : Int) ≤ 80) && l.all isL
theorem specSize (x : Int) : ∃ n, spec_l1Size.f x = some n ∧ (n = 0 ↔ isL x = false) := by
  unfold spec_l1Size.f isL
  simp only [specIn, Option.bind_some, decide_eq_true_eq]
  by_cases h1 : 0 ≤ x ∧ x ≤ 127
  · exact ⟨1, by rw [if_pos h1], by simp; omega⟩
  by_cases h2 : 128 ≤ x ∧ x ≤ 2047
  · exact ⟨2, by rw [if_neg h1, if_pos h2], by simp; omega⟩
  by_cases h3 : 55296 ≤ x ∧ x ≤ 57343
  · exact ⟨0, by rw [if_neg h1, if_neg h2, if_pos h3], by simp; omega⟩
  by_cases h4 : 2048 ≤ x ∧ x ≤ 65535
  · exact ⟨3, by rw [if_neg h1, if_neg h2, if_neg h3, if_pos h4], by simp; omega⟩
  by_cases h5 : 65536 ≤ x ∧ x ≤ 1114111
  · exact ⟨4, by rw [if_neg h1, if_neg h2, if_neg h3, if_neg h4, if_pos h5], by simp; omega⟩
  · exact ⟨0, by rw [if_neg h1, if_neg h2, if_neg h3, if_neg h4, if_neg h5], by simp; omega⟩
theorem okT_len {l : List Int} (h : okT l = true) : l.length ≤ 80 := by
  unfold okT at h
  simp only [Bool.and_eq_true, decide_eq_true_eq] at h
  omega

theorem isL_in {x : Int} (h : isL x = true) : 0 ≤ x ∧ x ≤ 1114111 ∧ (x < 55296 ∨ 57343 < x) := by
  simpa [isL, and_assoc] using h
/-- a letter's bytes -/
def enc8 (x : Int) : List Int :=
  if x ≤ 127 then [x] else if x ≤ 2047 then [192 + x / 64, 128 + x % 64]
  else if x ≤ 65535 then [224 + x / 4096, 128 + x / 64 % 64, 128 + x % 64]
  else [240 + x / 262144, 128 + x / 4096 % 64, 128 + x / 64 % 64, 128 + x % 64]
theorem enc8_len (x : Int) : 1 ≤ (enc8 x).length ∧ (enc8 x).length ≤ 4 := by
  unfold enc8
  repeat' split
  all_goals simp
theorem specSizeL (x : Int) (hx : isL x = true) : spec_l1Size.f x = some (if x ≤ 127 then 1 else if x ≤ 2047 then 2 else if x ≤ 65535 then 3 else 4) := by
  obtain ⟨h0, h1, h2⟩ := isL_in hx
  unfold spec_l1Size.f
  simp only [specIn, Option.bind_some, decide_eq_true_eq]
  by_cases c1 : x ≤ 127
  · rw [if_pos (by omega), if_pos c1]
  rw [if_neg (by omega), if_neg c1]
  by_cases c2 : x ≤ 2047
  · rw [if_pos (by omega), if_pos c2]
  rw [if_neg (by omega), if_neg c2, if_neg (by omega)]
  by_cases c3 : x ≤ 65535
  · rw [if_pos (by omega), if_pos c3]
  rw [if_neg (by omega), if_neg c3, if_pos (by omega)]
theorem specPutL (x : Int) (hx : isL x = true) : spec_l1Put.f x = some (strOfNums (enc8 x)) := by
  obtain ⟨h0, h1, h2⟩ := isL_in hx
  have d1 : Int.tdiv x 64 = x / 64 := Int.tdiv_eq_ediv_of_nonneg h0
  have d2 : Int.tdiv x 4096 = x / 4096 := Int.tdiv_eq_ediv_of_nonneg h0
  have d3 : Int.tdiv x 262144 = x / 262144 := Int.tdiv_eq_ediv_of_nonneg h0
  have m1 : Int.tmod x 64 = x % 64 := Int.tmod_eq_emod_of_nonneg h0
  have m2 : Int.tmod (x / 64) 64 = x / 64 % 64 := Int.tmod_eq_emod_of_nonneg (by omega)
  have m3 : Int.tmod (x / 4096) 64 = x / 4096 % 64 := Int.tmod_eq_emod_of_nonneg (by omega)
  have w1 : wrap64 (x / 64) = x / 64 := w64 (by omega) (by omega)
  have w2 : wrap64 (x / 4096) = x / 4096 := w64 (by omega) (by omega)
  have w3 : wrap64 (x / 262144) = x / 262144 := w64 (by omega) (by omega)
  unfold spec_l1Put.f enc8
  rw [specSizeL x hx, d1, d2, d3, m1, w1, w2, w3, m2, m3]
  simp only [Option.bind_some]
  have v1 : wrap64 (128 + x % 64) % 256 = 128 + x % 64 := by rw [w64 (by omega) (by omega)]; omega
  have v2 : wrap64 (128 + x / 64 % 64) % 256 = 128 + x / 64 % 64 := by rw [w64 (by omega) (by omega)]; omega
  have v3 : wrap64 (128 + x / 4096 % 64) % 256 = 128 + x / 4096 % 64 := by rw [w64 (by omega) (by omega)]; omega
  rw [v1, v2, v3]
  by_cases c1 : x ≤ 127
  · simp only [if_pos c1, if_true]
    rw [show x % 256 = x from by omega]
  by_cases c2 : x ≤ 2047
  · simp only [if_neg c1, if_pos c2, if_true]
    rw [if_neg (by omega), w64 (by omega) (by omega), show (192 + x / 64) % 256 = 192 + x / 64 from by omega]
  by_cases c3 : x ≤ 65535
  · simp only [if_neg c1, if_neg c2, if_pos c3, if_true]
    rw [if_neg (by omega), if_neg (by omega), w64 (by omega) (by omega), show (224 + x / 4096) % 256 = 224 + x / 4096 from by omega]
  · simp only [if_neg c1, if_neg c2, if_neg c3, if_true]
    rw [if_neg (by omega), if_neg (by omega), if_neg (by omega), w64 (by omega) (by omega), show (240 + x / 262144) % 256 = 240 + x / 262144 from by omega]
theorem strOfNums_append (a b : List Int) : strOfNums a ++ strOfNums b = strOfNums (a ++ b) := by
  apply ByteArray.ext
  simp [strOfNums, ByteArray.data_append]
def encAll (l : List Int) : List Int := l.flatMap enc8
theorem encAll_len : ∀ l : List Int, (encAll l).length ≤ 4 * l.length
  | [] => Nat.le_refl _
  | x :: l => by
    have := encAll_len l
    have := enc8_len x
    simp only [encAll, List.flatMap_cons, List.length_append, List.length_cons] at *
    omega
theorem okT_mem {l : List Int} (h : okT l = true) : ∀ x ∈ l, isL x = true := by
  unfold okT at h
  rw [Bool.and_eq_true] at h
  exact List.all_eq_true.1 h.2
def putL (l : List Int) : ByteArray := if okT l = true then strOfNums (encAll l) else ⟨#[]⟩
def putS (acc : ByteArray) (suf : List Int) (n : Nat) : ByteArray := if suf.all isL = true ∧ n + suf.length ≤ 80 then acc ++ strOfNums (encAll suf) else ⟨#[]⟩
theorem putS_ok (acc : ByteArray) (x : Int) (suf : List Int) (n : Nat) (hx : isL x = true) : putS acc (x :: suf) n = putS (acc ++ strOfNums (enc8 x)) suf (n + 1) := by
  unfold putS
  by_cases h : suf.all isL = true ∧ n + 1 + suf.length ≤ 80
  · rw [if_pos h, if_pos ⟨by rw [List.all_cons, hx, h.1]; rfl, by rw [List.length_cons]; omega⟩, ByteArray.append_assoc, strOfNums_append]
    rfl
  · rw [if_neg h, if_neg (fun g => h ⟨by have := g.1; rw [List.all_cons, hx] at this; exact this, by have := g.2; rw [List.length_cons] at this; omega⟩)]
theorem putS_bad (acc : ByteArray) (x : Int) (suf : List Int) (n : Nat) (hx : ¬ isL x = true) : putS acc (x :: suf) n = ⟨#[]⟩ := by
  unfold putS
  rw [if_neg (fun g => hx (by have := g.1; rw [List.all_cons, Bool.and_eq_true] at this; exact this.1))]
theorem putS_far (acc : ByteArray) (x : Int) (suf : List Int) (n : Nat) (hn : 80 ≤ n) : putS acc (x :: suf) n = ⟨#[]⟩ := by
  unfold putS
  rw [if_neg (fun g => by have := g.2; rw [List.length_cons] at this; omega)]
theorem append_none (a : ByteArray) : a ++ (⟨#[]⟩ : ByteArray) = a := by
  apply ByteArray.ext
  rw [ByteArray.data_append]
  simp
theorem specPut_l0 : ∀ (suf pre : List Int) (acc : ByteArray) (k : Nat), pre.length ≤ 80 → acc.size ≤ 4 * pre.length → suf.length ≤ 1048576 → suf.length + 1 ≤ k →
    spec_Utf8Put.l0 k (pre ++ suf) acc (pre.length : Int) = some (putS acc suf pre.length)
  | [], pre, acc, k, hp, ha, hl, hk => by
    obtain ⟨k, rfl⟩ : ∃ m, k = m + 1 := ⟨k - 1, by simp at hk; omega⟩
    simp only [spec_Utf8Put.l0]
    rw [if_neg (len_end pre)]
    unfold putS
    rw [if_pos ⟨rfl, by simpa using hp⟩]
    exact congrArg some (append_none acc).symm
  | x :: suf, pre, acc, k, hp, ha, hl, hk => by
    obtain ⟨k, rfl⟩ : ∃ m, k = m + 1 := ⟨k - 1, by simp at hk; omega⟩
    obtain ⟨n, e, hn⟩ := specSize x
    simp only [spec_Utf8Put.l0]
    rw [if_pos (len_mid pre x suf), if_pos (by omega), rd_mid, e]
    simp only [Option.bind_some]
    by_cases hx : isL x = true
    · rw [if_neg (fun g => by rw [hn.1 g] at hx; cases hx)]
      by_cases h80 : (pre.length : Int) ≥ 80
      · rw [if_pos h80, putS_far _ _ _ _ (by omega)]
      · have he := enc8_len x
        have ih := specPut_l0 suf (pre ++ [x]) (acc ++ strOfNums (enc8 x)) k (by simp; omega) (by rw [ByteArray.size_append, strOfNums_size]; simp; omega) (by simp at hl; omega) (by simp at hk; omega)
        rw [len_snoc, ← app_cons] at ih
        rw [if_neg h80, specPutL x hx]
        simp only [Option.bind_some]
        rw [strOfNums_size, if_pos (by omega), w64_len (by omega) (by omega), ih, putS_ok _ _ _ _ hx]
        simp
    · rw [if_pos (hn.2 (by simpa using hx)), putS_bad _ _ _ _ hx]
theorem specPut (l : List Int) (hl : l.length ≤ 1048576) (k : Nat) (hk : l.length + 1 ≤ k) : spec_Utf8Put.f k l = some (putL l) := by
  unfold spec_Utf8Put.f putL
  have e : spec_Utf8Put.l0 k l ⟨#[]⟩ 0 = some (putS ⟨#[]⟩ l 0) := specPut_l0 l [] ⟨#[]⟩ k (by simp) (Nat.le_refl 0) hl hk
  rw [e]
  congr 1
  unfold okT putS
  by_cases h : l.all isL = true ∧ 0 + l.length ≤ 80
  · rw [if_pos h, if_pos (by rw [h.1, Bool.and_true, decide_eq_true_eq]; omega)]
    apply ByteArray.ext
    rw [ByteArray.data_append]
    simp
  · rw [if_neg h, if_neg (fun g => h (by rw [Bool.and_eq_true, decide_eq_true_eq] at g; exact ⟨g.2, by omega⟩))]

/-! the letters of a text -/
theorem bytesOf_in (s : ByteArray) : ∀ x ∈ bytesOf s, 0 ≤ x ∧ x ≤ 255 := by
  intro x hx
  unfold bytesOf at hx
  obtain ⟨b, _, rfl⟩ := List.mem_map.1 hx
  have := b.toNat_lt
  omega
theorem bytesOf_length (s : ByteArray) : (bytesOf s).length = s.size := by
  unfold bytesOf
  rw [List.length_map]
  rfl
theorem strOf_bytes (s : ByteArray) : strOfNums (bytesOf s) = s := by
  apply ByteArray.ext
  apply Array.ext'
  show (bytesOf s).map (fun n => UInt8.ofNat n.toNat) = s.data.toList
  unfold bytesOf
  rw [List.map_map]
  conv => rhs; rw [← List.map_id s.data.toList]
  apply List.map_congr_left
  intro b _
  simp
theorem bytesOf_str {l : List Int} (h : ∀ x ∈ l, 0 ≤ x ∧ x ≤ 255) : bytesOf (strOfNums l) = l := by
  unfold bytesOf
  rw [strOfNums_data, List.map_map]
  conv => rhs; rw [← List.map_id l]
  apply List.map_congr_left
  intro x hx
  have := h x hx
  show (((UInt8.ofNat x.toNat).toNat : Nat) : Int) = x
  rw [UInt8.toNat_ofNat']
  omega
theorem bytesOf_inj {a b : ByteArray} (h : bytesOf a = bytesOf b) : a = b := by rw [← strOf_bytes a, ← strOf_bytes b, h]
theorem bytesOf_append (a b : ByteArray) : bytesOf (a ++ b) = bytesOf a ++ bytesOf b := by
  unfold bytesOf
  rw [ByteArray.data_append, Array.toList_append, List.map_append]
theorem bytesOf_extract (s : ByteArray) (a b : Nat) : bytesOf (s.extract a b) = ((bytesOf s).take b).drop a := by
  unfold bytesOf
  rw [ByteArray.data_extract, Array.toList_extract, List.extract_eq_take_drop, ← List.map_take, ← List.map_drop, List.drop_take]
theorem get_bytes (s : ByteArray) (i : Nat) : (s.get! i).toNat = ((bytesOf s).getD i 0).toNat := by
  obtain ⟨d⟩ := s
  show (d[i]!).toNat = ((d.toList.map fun b => (b.toNat : Int)).getD i 0).toNat
  rw [List.getD_eq_getElem?_getD, List.getElem?_map, Array.getElem?_toList]
  by_cases h : i < d.size
  · rw [getElem!_pos d i h, Array.getElem?_eq_getElem h]
    simp
  · rw [getElem!_neg d i h, Array.getElem?_eq_none (by omega)]
    rfl
/-- the letter at the head of bytes, and its length -/
def dec (l : List Int) : Nat × Nat := Lib.decodeN l.length (l.getD 0 0).toNat (l.getD 1 0).toNat (l.getD 2 0).toNat (l.getD 3 0).toNat
theorem decodeGo_bytes {s : ByteArray} (h : s.size ≠ 0) : Lib.decodeGo s = dec (bytesOf s) := by
  rw [decodeGo_eq h, get_bytes, get_bytes, get_bytes, get_bytes]
  unfold dec
  rw [bytesOf_length]
def goodL (l : List Int) : Bool := (((dec l).1 : Int) != 65533) || decide (1 < ((dec l).2 : Int))
/-- what a letter's bytes are -/
def Enc (r k n b0 b1 b2 b3 : Nat) : Prop :=
  (k = 1 ∧ r < 128 ∧ b0 = r) ∨ (k = 2 ∧ 2 ≤ n ∧ 128 ≤ r ∧ r ≤ 2047 ∧ b0 = 192 + r / 64 ∧ b1 = 128 + r % 64) ∨
  (k = 3 ∧ 3 ≤ n ∧ 2048 ≤ r ∧ r ≤ 65535 ∧ (r < 55296 ∨ 57343 < r) ∧ b0 = 224 + r / 4096 ∧ b1 = 128 + r / 64 % 64 ∧ b2 = 128 + r % 64) ∨
  (k = 4 ∧ 4 ≤ n ∧ 65536 ≤ r ∧ r ≤ 1114111 ∧ b0 = 240 + r / 262144 ∧ b1 = 128 + r / 4096 % 64 ∧ b2 = 128 + r / 64 % 64 ∧ b3 = 128 + r % 64)
theorem decodeN_good {n b0 b1 b2 b3 r k : Nat} (h : Lib.decodeN n b0 b1 b2 b3 = (r, k)) (hg : r ≠ 65533 ∨ 1 < k) : Enc r k n b0 b1 b2 b3 := by
  unfold Lib.decodeN at h
  have no : (65533, 1) = (r, k) → False := by
    intro e
    obtain ⟨rfl, rfl⟩ := Prod.mk.inj e
    omega
  unfold Enc
  split at h
  · obtain ⟨rfl, rfl⟩ := Prod.mk.inj h
    left
    omega
  split at h
  · split at h
    · obtain ⟨rfl, rfl⟩ := Prod.mk.inj h
      right; left
      omega
    · exact (no h).elim
  split at h
  · split at h
    · obtain ⟨rfl, rfl⟩ := Prod.mk.inj h
      right; right; left
      omega
    · exact (no h).elim
  split at h
  · split at h
    · obtain ⟨rfl, rfl⟩ := Prod.mk.inj h
      right; right; right
      omega
    · exact (no h).elim
  exact (no h).elim
theorem decodeN_enc {n b0 b1 b2 b3 r k : Nat} (h : Enc r k n b0 b1 b2 b3) : Lib.decodeN n b0 b1 b2 b3 = (r, k) := by
  unfold Enc at h
  unfold Lib.decodeN
  rcases h with ⟨rfl, h⟩ | ⟨rfl, h⟩ | ⟨rfl, h⟩ | ⟨rfl, h⟩
  · rw [if_pos (by omega), h.2]
  · rw [if_neg (by omega), if_pos (by omega), if_pos (by omega)]
    apply Prod.ext
    · show b0 % 32 * 64 + b1 % 64 = r
      omega
    · rfl
  · have e : b0 % 16 * 4096 + b1 % 64 * 64 + b2 % 64 = r := by omega
    rw [if_neg (by omega), if_neg (by omega), if_pos (by omega), e, if_pos (by omega)]
  · have e : b0 % 8 * 262144 + b1 % 64 * 4096 + b2 % 64 * 64 + b3 % 64 = r := by omega
    rw [if_neg (by omega), if_neg (by omega), if_neg (by omega), if_pos (by omega), e, if_pos (by omega)]
theorem dec_good {l : List Int} (hb : ∀ x ∈ l, 0 ≤ x ∧ x ≤ 255) (h0 : l ≠ []) (hg : goodL l = true) : ∃ x t, isL x = true ∧ l = enc8 x ++ t ∧ dec l = (x.toNat, (enc8 x).length) := by
  obtain ⟨r, k, hd⟩ : ∃ r k, dec l = (r, k) := ⟨_, _, rfl⟩
  have hE : Enc r k l.length (l.getD 0 0).toNat (l.getD 1 0).toNat (l.getD 2 0).toNat (l.getD 3 0).toNat := by
    refine decodeN_good hd ?_
    unfold goodL at hg
    rw [hd] at hg
    simp only [Bool.or_eq_true, bne_iff_ne, ne_eq, decide_eq_true_eq] at hg
    omega
  have isl : isL ((r : Nat) : Int) = true := by
    unfold Enc at hE
    simp only [isL, Bool.and_eq_true, Bool.or_eq_true, decide_eq_true_eq]
    omega
  rw [hd]
  unfold Enc at hE
  rcases hE with ⟨rfl, h1, h2⟩ | ⟨rfl, h1, h2⟩ | ⟨rfl, h1, h2⟩ | ⟨rfl, h1, h2⟩
  · match l, h0 with
    | b0 :: t, _ =>
      have := hb b0 (by simp)
      simp only [List.getD_cons_zero] at h2
      refine ⟨_, t, isl, ?_, ?_⟩
      · unfold enc8
        rw [if_pos (by omega), show b0 = ((r : Nat) : Int) from by omega]
        rfl
      · unfold enc8
        rw [if_pos (by omega)]
        rfl
  · match l, h1 with
    | b0 :: b1 :: t, _ =>
      have := hb b0 (by simp)
      have := hb b1 (by simp)
      simp only [List.getD_cons_zero, List.getD_cons_succ] at h2
      have e : enc8 ((r : Nat) : Int) = [b0, b1] := by
        unfold enc8
        rw [if_neg (by omega), if_pos (by omega), show b0 = 192 + ((r : Nat) : Int) / 64 from by omega, show b1 = 128 + ((r : Nat) : Int) % 64 from by omega]
      exact ⟨_, t, isl, by rw [e]; rfl, by rw [e]; rfl⟩
  · match l, h1 with
    | b0 :: b1 :: b2 :: t, _ =>
      have := hb b0 (by simp)
      have := hb b1 (by simp)
      have := hb b2 (by simp)
      simp only [List.getD_cons_zero, List.getD_cons_succ] at h2
      have e : enc8 ((r : Nat) : Int) = [b0, b1, b2] := by
        unfold enc8
        rw [if_neg (by omega), if_neg (by omega), if_pos (by omega), show b0 = 224 + ((r : Nat) : Int) / 4096 from by omega, show b1 = 128 + ((r : Nat) : Int) / 64 % 64 from by omega, show b2 = 128 + ((r : Nat) : Int) % 64 from by omega]
      exact ⟨_, t, isl, by rw [e]; rfl, by rw [e]; rfl⟩
  · match l, h1 with
    | b0 :: b1 :: b2 :: b3 :: t, _ =>
      have := hb b0 (by simp)
      have := hb b1 (by simp)
      have := hb b2 (by simp)
      have := hb b3 (by simp)
      simp only [List.getD_cons_zero, List.getD_cons_succ] at h2
      have e : enc8 ((r : Nat) : Int) = [b0, b1, b2, b3] := by
        unfold enc8
        rw [if_neg (by omega), if_neg (by omega), if_neg (by omega), show b0 = 240 + ((r : Nat) : Int) / 262144 from by omega, show b1 = 128 + ((r : Nat) : Int) / 4096 % 64 from by omega, show b2 = 128 + ((r : Nat) : Int) / 64 % 64 from by omega, show b3 = 128 + ((r : Nat) : Int) % 64 from by omega]
      exact ⟨_, t, isl, by rw [e]; rfl, by rw [e]; rfl⟩
theorem dec_enc {x : Int} (hx : isL x = true) (t : List Int) : dec (enc8 x ++ t) = (x.toNat, (enc8 x).length) := by
  obtain ⟨h0, h1, h2⟩ := isL_in hx
  obtain ⟨r, rfl⟩ := Int.eq_ofNat_of_zero_le h0
  unfold dec
  apply decodeN_enc
  unfold Enc enc8
  by_cases c1 : ((r : Nat) : Int) ≤ 127
  · simp only [if_pos c1, List.cons_append, List.nil_append, List.length_cons, List.length_nil, List.getD_cons_zero, List.getD_cons_succ]
    left
    simp only [true_and, and_true]
    omega
  by_cases c2 : ((r : Nat) : Int) ≤ 2047
  · simp only [if_neg c1, if_pos c2, List.cons_append, List.nil_append, List.length_cons, List.length_nil, List.getD_cons_zero, List.getD_cons_succ]
    right; left
    simp only [true_and, and_true]
    omega
  by_cases c3 : ((r : Nat) : Int) ≤ 65535
  · simp only [if_neg c1, if_neg c2, if_pos c3, List.cons_append, List.nil_append, List.length_cons, List.length_nil, List.getD_cons_zero, List.getD_cons_succ]
    right; right; left
    simp only [true_and, and_true]
    omega
  · simp only [if_neg c1, if_neg c2, if_neg c3, List.cons_append, List.nil_append, List.length_cons, List.length_nil, List.getD_cons_zero, List.getD_cons_succ]
    right; right; right
    simp only [true_and, and_true]
    omega
theorem good_enc {x : Int} (hx : isL x = true) (t : List Int) : goodL (enc8 x ++ t) = true := by
  obtain ⟨h0, h1, h2⟩ := isL_in hx
  unfold goodL
  rw [dec_enc hx t]
  simp only [Bool.or_eq_true, bne_iff_ne, ne_eq, decide_eq_true_eq]
  by_cases h : x = 65533
  · subst h
    right
    decide
  · left
    omega
theorem enc8_bytes {x : Int} (hx : isL x = true) : ∀ b ∈ enc8 x, 0 ≤ b ∧ b ≤ 255 := by
  obtain ⟨h0, h1, h2⟩ := isL_in hx
  unfold enc8
  repeat' split
  all_goals
    intro b hb
    simp only [List.mem_cons, List.mem_nil_iff, or_false] at hb
    omega
theorem encAll_bytes {l : List Int} (h : ∀ x ∈ l, isL x = true) : ∀ b ∈ encAll l, 0 ≤ b ∧ b ≤ 255 := by
  intro b hb
  unfold encAll at hb
  obtain ⟨x, hx, hb⟩ := List.mem_flatMap.1 hb
  exact enc8_bytes (h x hx) b hb
/-- the letters of bytes, behind those that have come -/
def getGo : Nat → List Int → List Int → List Int × Bool
  | 0, _, _ => ([], false)
  | f + 1, l, out => if l = [] then (out, true) else if goodL l = true ∧ out.length ≠ 80 then getGo f (l.drop (dec l).2) (out ++ [((dec l).1 : Int)]) else ([], false)
def getL (l : List Int) : List Int × Bool := getGo (l.length + 1) l []
/-- what is read was written -/
theorem getGo_read : ∀ (f : Nat) (l out r : List Int), (∀ x ∈ l, 0 ≤ x ∧ x ≤ 255) → out.length ≤ 80 → getGo f l out = (r, true) → ∃ d, r = out ++ d ∧ (∀ x ∈ d, isL x = true) ∧ l = encAll d ∧ r.length ≤ 80
  | 0, l, out, r, hb, ho, h => by simp [getGo] at h
  | f + 1, l, out, r, hb, ho, h => by
    rw [getGo] at h
    by_cases h0 : l = []
    · rw [if_pos h0] at h
      obtain ⟨rfl, _⟩ := Prod.mk.inj h
      exact ⟨[], by simp, by simp, by rw [h0]; rfl, ho⟩
    · rw [if_neg h0] at h
      by_cases hg : goodL l = true ∧ out.length ≠ 80
      · rw [if_pos hg] at h
        obtain ⟨x, t, hx, rfl, hd⟩ := dec_good hb h0 hg.1
        obtain ⟨i0, _⟩ := isL_in hx
        rw [hd, List.drop_left] at h
        obtain ⟨d, e1, e2, e3, e4⟩ := getGo_read f t (out ++ [((x.toNat : Nat) : Int)]) r (fun y hy => hb y (List.mem_append_right _ hy)) (by rw [List.length_append, List.length_cons, List.length_nil]; omega) h
        refine ⟨x :: d, ?_, ?_, ?_, e4⟩
        · rw [e1, List.append_assoc, Int.toNat_of_nonneg i0]
          rfl
        · intro y hy
          rcases List.mem_cons.1 hy with rfl | hy
          · exact hx
          · exact e2 y hy
        · rw [e3]
          rfl
      · rw [if_neg hg] at h
        exact absurd (Prod.mk.inj h).2 (by decide)
/-- what is written is read -/
theorem getGo_write : ∀ (d : List Int) (f : Nat) (out : List Int), (∀ x ∈ d, isL x = true) → out.length + d.length ≤ 80 → d.length + 1 ≤ f → getGo f (encAll d) out = (out ++ d, true)
  | [], f, out, hd, ho, hf => by
    obtain ⟨f, rfl⟩ : ∃ m, f = m + 1 := ⟨f - 1, by simp at hf; omega⟩
    rw [getGo, if_pos (show encAll [] = [] from rfl), List.append_nil]
  | x :: d, f, out, hd, ho, hf => by
    obtain ⟨f, rfl⟩ : ∃ m, f = m + 1 := ⟨f - 1, by simp at hf; omega⟩
    have hx := hd x (by simp)
    obtain ⟨i0, _⟩ := isL_in hx
    have el := enc8_len x
    have e : encAll (x :: d) = enc8 x ++ encAll d := rfl
    rw [List.length_cons] at ho hf
    have ne : enc8 x ++ encAll d ≠ [] := by
      intro h
      have := congrArg List.length h
      rw [List.length_append, List.length_nil] at this
      omega
    rw [e, getGo, if_neg ne, if_pos ⟨good_enc hx _, by omega⟩, dec_enc hx, List.drop_left, Int.toNat_of_nonneg i0]
    have := getGo_write d f (out ++ [x]) (fun y hy => hd y (List.mem_cons_of_mem _ hy)) (by rw [List.length_append, List.length_cons, List.length_nil]; omega) (by omega)
    rw [this, List.append_assoc]
    rfl
theorem encAll_ge : ∀ d : List Int, d.length ≤ (encAll d).length
  | [] => Nat.le_refl _
  | x :: d => by
    have := encAll_ge d
    have := enc8_len x
    have e : encAll (x :: d) = enc8 x ++ encAll d := rfl
    rw [e, List.length_append, List.length_cons]
    omega
theorem getL_write {d : List Int} (hd : ∀ x ∈ d, isL x = true) (hl : d.length ≤ 80) : getL (encAll d) = (d, true) := by
  unfold getL
  rw [getGo_write d _ [] hd (by simpa using hl) (by have := encAll_ge d; omega)]
  rfl
theorem getL_read {l r : List Int} (hb : ∀ x ∈ l, 0 ≤ x ∧ x ≤ 255) (h : getL l = (r, true)) : (∀ x ∈ r, isL x = true) ∧ l = encAll r ∧ r.length ≤ 80 := by
  obtain ⟨d, e1, e2, e3, e4⟩ := getGo_read _ l [] r hb (by simp) h
  rw [List.nil_append] at e1
  subst e1
  exact ⟨e2, e3, e4⟩
theorem getGo_none : ∀ (f : Nat) (l out r : List Int), getGo f l out = (r, false) → r = []
  | 0, l, out, r, h => (Prod.mk.inj h).1.symm
  | f + 1, l, out, r, h => by
    rw [getGo] at h
    split at h
    · exact absurd (Prod.mk.inj h).2 (by decide)
    split at h
    · exact getGo_none f _ _ r h
    · exact (Prod.mk.inj h).1.symm
theorem getL_none {l r : List Int} (h : getL l = (r, false)) : r = [] := getGo_none _ _ _ _ h

theorem goodOf_bytes {s : ByteArray} (h : s.size ≠ 0) : goodOf s = goodL (bytesOf s) := by
  unfold goodOf goodL runeOf
  rw [decodeGo_bytes h]
theorem tailOf_bytes {s : ByteArray} (h : s.size ≠ 0) : bytesOf (tailOf s) = (bytesOf s).drop (dec (bytesOf s)).2 := by
  unfold tailOf
  rw [decodeGo_bytes h, bytesOf_extract]
  have e : (bytesOf s).take s.size = bytesOf s := by rw [← bytesOf_length s, List.take_length]
  rw [e]
theorem tailOf_size {s : ByteArray} (h : s.size ≠ 0) : (tailOf s).size < s.size := by
  have := text_size h
  unfold tailOf
  rw [ByteArray.size_extract]
  omega
theorem implGet_go : ∀ (n : Nat) (s : ByteArray) (out : List Int) (k f : Nat), s.size ≤ n → n < k → n < f → impl_Utf8Get.go k s out = some (getGo f (bytesOf s) out)
  | n, s, out, k, f, hn, hk, hf => by
    obtain ⟨k, rfl⟩ : ∃ m, k = m + 1 := ⟨k - 1, by omega⟩
    obtain ⟨f, rfl⟩ : ∃ m, f = m + 1 := ⟨f - 1, by omega⟩
    rw [impl_Utf8Get.go, getGo]
    by_cases h : s.size = 0
    · have h2 : bytesOf s = [] := List.eq_nil_of_length_eq_zero (by rw [bytesOf_length]; exact h)
      rw [if_pos h, if_pos h2]
    · have h2 : bytesOf s ≠ [] := by
        intro e
        have := congrArg List.length e
        rw [bytesOf_length, List.length_nil] at this
        exact h this
      rw [if_neg h, if_neg h2, goodOf_bytes h]
      by_cases hg : goodL (bytesOf s) = true ∧ out.length ≠ 80
      · obtain ⟨n, rfl⟩ : ∃ m, n = m + 1 := ⟨n - 1, by omega⟩
        have hz := tailOf_size h
        rw [if_pos hg, if_pos hg, implGet_go n (tailOf s) _ k f (by omega) (by omega) (by omega), tailOf_bytes h]
        unfold runeOf
        rw [decodeGo_bytes h]
      · rw [if_neg hg, if_neg hg]
theorem getGo_more : ∀ (f g : Nat) (l out : List Int), (∀ x ∈ l, 0 ≤ x ∧ x ≤ 255) → l.length < f → l.length < g → getGo f l out = getGo g l out
  | f, g, l, out, hb, hf, hg => by
    have e := implGet_go l.length (strOfNums l) out (l.length + 1) f (by rw [strOfNums_size]; exact Nat.le_refl _) (by omega) hf
    have e2 := implGet_go l.length (strOfNums l) out (l.length + 1) g (by rw [strOfNums_size]; exact Nat.le_refl _) (by omega) hg
    rw [bytesOf_str hb] at e e2
    rw [e] at e2
    exact Option.some.inj e2
theorem implGet (s : ByteArray) (k : Nat) (hk : s.size + 1 ≤ k) : impl_Utf8Get.f k s = some (getL (bytesOf s)) := by
  unfold impl_Utf8Get.f getL
  rw [bytesOf_length]
  exact implGet_go s.size s [] k _ (Nat.le_refl _) (by omega) (by omega)
/-! the reference -/
def sizeN (x : Int) : Int := if 0 ≤ x ∧ x ≤ 127 then 1 else if 128 ≤ x ∧ x ≤ 2047 then 2 else if 55296 ≤ x ∧ x ≤ 57343 then 0 else if 2048 ≤ x ∧ x ≤ 65535 then 3 else if 65536 ≤ x ∧ x ≤ 1114111 then 4 else 0
theorem specSizeN (x : Int) : spec_l1Size.f x = some (sizeN x) := by
  unfold spec_l1Size.f sizeN
  simp only [specIn, Option.bind_some, decide_eq_true_eq]
  repeat' split
  all_goals rfl
theorem next_step (s : ByteArray) (a n r i : Int) (k : Nat) (h0 : 0 ≤ a) (i0 : 0 ≤ i) (hi : i < n) (hsz : a + i < (s.size : Int)) (hs : s.size ≤ 1000000) (hr : 0 ≤ r) (hr' : r ≤ 100000000) :
    spec_l1Next.l0 (k + 1) s a n r i = if 128 ≤ bt s (a + i) ∧ bt s (a + i) ≤ 191 then spec_l1Next.l0 k s a n (r * 64 + bt s (a + i) - 128) (i + 1) else some (0, 0) := by
  have hb := bt_range s (a + i)
  have w1 : wrap64 (a + i) = a + i := w64 (by omega) (by omega)
  rw [spec_l1Next.l0, if_pos hi, w1, if_pos (by omega), if_pos hsz, w64 (x := bt s (a + i)) (by omega) (by omega), specIn]
  simp only [Option.bind_some, decide_eq_true_eq]
  by_cases h : 128 ≤ bt s (a + i) ∧ bt s (a + i) ≤ 191
  · rw [if_pos h, if_pos h, w64 (x := r * 64) (by omega) (by omega), w64 (x := r * 64 + bt s (a + i)) (by omega) (by omega), w64 (x := r * 64 + bt s (a + i) - 128) (by omega) (by omega), w64 (x := i + 1) (by omega) (by omega)]
  · rw [if_neg h, if_neg h]
theorem next_end (s : ByteArray) (a n r : Int) (k : Nat) : spec_l1Next.l0 (k + 1) s a n r n = if sizeN r = n then some (r, n) else some (0, 0) := by
  rw [spec_l1Next.l0, if_neg (by omega), specSizeN]
  simp only [Option.bind_some]
def nextL (l : List Int) : Int × Int := if goodL l = true then (((dec l).1 : Int), ((dec l).2 : Int)) else (0, 0)
theorem nextL_yes {l : List Int} {r k : Nat} (h : Enc r k l.length (l.getD 0 0).toNat (l.getD 1 0).toNat (l.getD 2 0).toNat (l.getD 3 0).toNat) : nextL l = ((r : Int), (k : Int)) := by
  have hd : dec l = (r, k) := decodeN_enc h
  have hg : goodL l = true := by
    unfold goodL
    rw [hd]
    unfold Enc at h
    simp only [Bool.or_eq_true, bne_iff_ne, ne_eq, decide_eq_true_eq]
    omega
  unfold nextL
  rw [if_pos hg, hd]
theorem nextL_no {l : List Int} (h : ∀ r k, ¬ Enc r k l.length (l.getD 0 0).toNat (l.getD 1 0).toNat (l.getD 2 0).toNat (l.getD 3 0).toNat) : nextL l = (0, 0) := by
  have hg : ¬ goodL l = true := by
    intro hg
    unfold goodL at hg
    simp only [Bool.or_eq_true, bne_iff_ne, ne_eq, decide_eq_true_eq] at hg
    exact h (dec l).1 (dec l).2 (decodeN_good rfl (by omega))
  unfold nextL
  rw [if_neg hg]
theorem bt_drop (s : ByteArray) (a i : Nat) : bt s ((a : Int) + (i : Int)) = ((bytesOf s).drop a).getD i 0 := by
  rw [← rd_bytesOf]
  unfold rd
  rw [List.getD_eq_getElem?_getD, List.getD_eq_getElem?_getD, List.getElem?_drop]
  congr 2
theorem specLead (b : Int) (h0 : 0 ≤ b) (h1 : b ≤ 255) : spec_l1Lead.f b = some (if b < 128 then (1, b) else if 192 ≤ b ∧ b ≤ 223 then (2, b - 192) else if 224 ≤ b ∧ b ≤ 239 then (3, b - 224) else if 240 ≤ b ∧ b ≤ 247 then (4, b - 240) else (0, 0)) := by
  unfold spec_l1Lead.f
  simp only [specIn, Option.bind_some, decide_eq_true_eq]
  rw [w64 (x := b - 192) (by omega) (by omega), w64 (x := b - 224) (by omega) (by omega), w64 (x := b - 240) (by omega) (by omega)]
  repeat' split
  all_goals rfl
set_option maxHeartbeats 2000000 in
theorem specNext (s : ByteArray) (a : Nat) (ha : a < s.size) (hs : s.size ≤ 1000000) (k : Nat) (hk : 10 ≤ k) : spec_l1Next.f k s (a : Int) = some (nextL ((bytesOf s).drop a)) := by
  obtain ⟨k, rfl⟩ : ∃ m, k = m + 10 := ⟨k - 10, by omega⟩
  generalize hl : (bytesOf s).drop a = l
  have hlen : l.length = s.size - a := by rw [← hl, List.length_drop, bytesOf_length]
  have e0 : bt s (a : Int) = l.getD 0 0 := by rw [← hl, ← bt_drop s a 0]; simp
  have e1 : bt s ((a : Int) + 1) = l.getD 1 0 := by rw [← hl]; exact bt_drop s a 1
  have e2 : bt s ((a : Int) + 2) = l.getD 2 0 := by rw [← hl]; exact bt_drop s a 2
  have e3 : bt s ((a : Int) + 3) = l.getD 3 0 := by rw [← hl]; exact bt_drop s a 3
  have r0 := bt_range s (a : Int)
  have r1 := bt_range s ((a : Int) + 1)
  have r2 := bt_range s ((a : Int) + 2)
  have r3 := bt_range s ((a : Int) + 3)
  unfold spec_l1Next.f
  rw [if_pos (by omega), if_pos (by omega), w64 (x := bt s (a : Int)) (by omega) (by omega), specLead _ r0.1 r0.2]
  simp only [Option.bind_some]
  have yes : ∀ (r k : Nat), Enc r k l.length (l.getD 0 0).toNat (l.getD 1 0).toNat (l.getD 2 0).toNat (l.getD 3 0).toNat → ∀ x n : Int, x = (r : Int) → n = (k : Int) → some (x, n) = some (nextL l) := by
    intro r k h x n hx hn
    rw [nextL_yes h, hx, hn]
  have no : (∀ r k, ¬ Enc r k l.length (l.getD 0 0).toNat (l.getD 1 0).toNat (l.getD 2 0).toNat (l.getD 3 0).toNat) → some ((0 : Int), (0 : Int)) = some (nextL l) := fun h => by rw [nextL_no h]
  rw [← e0, ← e1, ← e2, ← e3] at yes no
  generalize bt s (a : Int) = b0 at *
  generalize hb1 : bt s ((a : Int) + 1) = b1 at *
  generalize hb2 : bt s ((a : Int) + 2) = b2 at *
  generalize hb3 : bt s ((a : Int) + 3) = b3 at *
  by_cases c1 : b0 < 128
  · rw [if_pos c1]
    show (if (1 : Int) = 0 then spec_l1Next.j0 (k + 10) s a 1 b0 true else spec_l1Next.j0 (k + 10) s a 1 b0 (decide (wrap64 ((a : Int) + 1) > (s.size : Int)))) = _
    rw [if_neg (by decide), show decide (wrap64 ((a : Int) + 1) > (s.size : Int)) = false from decide_eq_false (by rw [w64 (by omega) (by omega)]; omega)]
    rw [spec_l1Next.j0, if_neg (by decide), next_end]
    rw [if_pos (by unfold sizeN; rw [if_pos (by omega)])]
    exact yes b0.toNat 1 (by unfold Enc; left; omega) _ _ (by omega) rfl
  by_cases c2 : 192 ≤ b0 ∧ b0 ≤ 223
  · rw [if_neg c1, if_pos c2]
    show (if (2 : Int) = 0 then spec_l1Next.j0 (k + 10) s a 2 (b0 - 192) true else spec_l1Next.j0 (k + 10) s a 2 (b0 - 192) (decide (wrap64 ((a : Int) + 2) > (s.size : Int)))) = _
    rw [if_neg (by decide), w64 (x := (a : Int) + 2) (by omega) (by omega), spec_l1Next.j0]
    by_cases d : (a : Int) + 2 > (s.size : Int)
    · rw [if_pos (decide_eq_true d)]
      exact no (by intro r k h; unfold Enc at h; omega)
    rw [if_neg (by simp [d]), next_step s a 2 (b0 - 192) 1 (k + 8) (by omega) (by omega) (by omega) (by omega) hs (by omega) (by omega), hb1]
    by_cases d1 : 128 ≤ b1 ∧ b1 ≤ 191
    · rw [if_pos d1]
      show spec_l1Next.l0 (k + 7 + 1) s a 2 _ 2 = _
      rw [next_end]
      by_cases d2 : sizeN ((b0 - 192) * 64 + b1 - 128) = 2
      · rw [if_pos d2]
        refine yes ((b0 - 192) * 64 + b1 - 128).toNat 2 ?_ _ _ (by omega) rfl
        unfold sizeN at d2
        unfold Enc
        right; left
        repeat' split at d2
        all_goals omega
      · rw [if_neg d2]
        refine no (fun r k h => d2 ?_)
        unfold Enc at h
        unfold sizeN
        rw [if_neg (by omega), if_pos (by omega)]
    · rw [if_neg d1]
      exact no (by intro r k h; unfold Enc at h; omega)
  by_cases c3 : 224 ≤ b0 ∧ b0 ≤ 239
  · rw [if_neg c1, if_neg c2, if_pos c3]
    show (if (3 : Int) = 0 then spec_l1Next.j0 (k + 10) s a 3 (b0 - 224) true else spec_l1Next.j0 (k + 10) s a 3 (b0 - 224) (decide (wrap64 ((a : Int) + 3) > (s.size : Int)))) = _
    rw [if_neg (by decide), w64 (x := (a : Int) + 3) (by omega) (by omega), spec_l1Next.j0]
    by_cases d : (a : Int) + 3 > (s.size : Int)
    · rw [if_pos (decide_eq_true d)]
      exact no (by intro r k h; unfold Enc at h; omega)
    rw [if_neg (by simp [d]), next_step s a 3 (b0 - 224) 1 (k + 8) (by omega) (by omega) (by omega) (by omega) hs (by omega) (by omega), hb1]
    by_cases d1 : 128 ≤ b1 ∧ b1 ≤ 191
    · rw [if_pos d1]
      show spec_l1Next.l0 (k + 7 + 1) s a 3 _ 2 = _
      rw [next_step s a 3 _ 2 (k + 7) (by omega) (by omega) (by omega) (by omega) hs (by omega) (by omega), hb2]
      by_cases d2 : 128 ≤ b2 ∧ b2 ≤ 191
      · rw [if_pos d2]
        show spec_l1Next.l0 (k + 6 + 1) s a 3 _ 3 = _
        rw [next_end]
        by_cases d3 : sizeN (((b0 - 224) * 64 + b1 - 128) * 64 + b2 - 128) = 3
        · rw [if_pos d3]
          refine yes (((b0 - 224) * 64 + b1 - 128) * 64 + b2 - 128).toNat 3 ?_ _ _ (by omega) rfl
          unfold sizeN at d3
          unfold Enc
          right; right; left
          repeat' split at d3
          all_goals omega
        · rw [if_neg d3]
          refine no (fun r k h => d3 ?_)
          unfold Enc at h
          unfold sizeN
          rw [if_neg (by omega), if_neg (by omega), if_neg (by omega), if_pos (by omega)]
      · rw [if_neg d2]
        exact no (by intro r k h; unfold Enc at h; omega)
    · rw [if_neg d1]
      exact no (by intro r k h; unfold Enc at h; omega)
  by_cases c4 : 240 ≤ b0 ∧ b0 ≤ 247
  · rw [if_neg c1, if_neg c2, if_neg c3, if_pos c4]
    show (if (4 : Int) = 0 then spec_l1Next.j0 (k + 10) s a 4 (b0 - 240) true else spec_l1Next.j0 (k + 10) s a 4 (b0 - 240) (decide (wrap64 ((a : Int) + 4) > (s.size : Int)))) = _
    rw [if_neg (by decide), w64 (x := (a : Int) + 4) (by omega) (by omega), spec_l1Next.j0]
    by_cases d : (a : Int) + 4 > (s.size : Int)
    · rw [if_pos (decide_eq_true d)]
      exact no (by intro r k h; unfold Enc at h; omega)
    rw [if_neg (by simp [d]), next_step s a 4 (b0 - 240) 1 (k + 8) (by omega) (by omega) (by omega) (by omega) hs (by omega) (by omega), hb1]
    by_cases d1 : 128 ≤ b1 ∧ b1 ≤ 191
    · rw [if_pos d1]
      show spec_l1Next.l0 (k + 7 + 1) s a 4 _ 2 = _
      rw [next_step s a 4 _ 2 (k + 7) (by omega) (by omega) (by omega) (by omega) hs (by omega) (by omega), hb2]
      by_cases d2 : 128 ≤ b2 ∧ b2 ≤ 191
      · rw [if_pos d2]
        show spec_l1Next.l0 (k + 6 + 1) s a 4 _ 3 = _
        rw [next_step s a 4 _ 3 (k + 6) (by omega) (by omega) (by omega) (by omega) hs (by omega) (by omega), hb3]
        by_cases d3 : 128 ≤ b3 ∧ b3 ≤ 191
        · rw [if_pos d3]
          show spec_l1Next.l0 (k + 5 + 1) s a 4 _ 4 = _
          rw [next_end]
          by_cases d4 : sizeN ((((b0 - 240) * 64 + b1 - 128) * 64 + b2 - 128) * 64 + b3 - 128) = 4
          · rw [if_pos d4]
            refine yes ((((b0 - 240) * 64 + b1 - 128) * 64 + b2 - 128) * 64 + b3 - 128).toNat 4 ?_ _ _ (by omega) rfl
            unfold sizeN at d4
            unfold Enc
            right; right; right
            repeat' split at d4
            all_goals omega
          · rw [if_neg d4]
            refine no (fun r k h => d4 ?_)
            unfold Enc at h
            unfold sizeN
            rw [if_neg (by omega), if_neg (by omega), if_neg (by omega), if_neg (by omega), if_pos (by omega)]
        · rw [if_neg d3]
          exact no (by intro r k h; unfold Enc at h; omega)
      · rw [if_neg d2]
        exact no (by intro r k h; unfold Enc at h; omega)
    · rw [if_neg d1]
      exact no (by intro r k h; unfold Enc at h; omega)
  · rw [if_neg c1, if_neg c2, if_neg c3, if_neg c4]
    show (if (0 : Int) = 0 then spec_l1Next.j0 (k + 10) s a 0 0 true else _) = _
    rw [if_pos rfl, spec_l1Next.j0, if_pos rfl]
    exact no (by intro r k h; unfold Enc at h; omega)

theorem dec_size {l : List Int} (hb : ∀ x ∈ l, 0 ≤ x ∧ x ≤ 255) (h0 : l ≠ []) (hg : goodL l = true) : 1 ≤ (dec l).2 ∧ (dec l).2 ≤ l.length := by
  obtain ⟨x, t, hx, e, hd⟩ := dec_good hb h0 hg
  have := enc8_len x
  rw [hd]
  rw [e, List.length_append]
  exact ⟨this.1, by show (enc8 x).length ≤ _; omega⟩
theorem specGet_l0 : ∀ (n : Nat) (s : ByteArray) (a : Nat) (out : List Int) (k f : Nat), s.size - a ≤ n → a ≤ s.size → s.size ≤ 1000000 → out.length ≤ 80 → n + 12 ≤ k → n < f → spec_Utf8Get.l0 k s out (a : Int) = some (getGo f ((bytesOf s).drop a) out)
  | n, s, a, out, k, f, hn, ha, hs, ho, hk, hf => by
    obtain ⟨k, rfl⟩ : ∃ m, k = m + 1 := ⟨k - 1, by omega⟩
    obtain ⟨f, rfl⟩ : ∃ m, f = m + 1 := ⟨f - 1, by omega⟩
    have hlen : ((bytesOf s).drop a).length = s.size - a := by rw [List.length_drop, bytesOf_length]
    rw [spec_Utf8Get.l0, getGo]
    by_cases h : a < s.size
    · have hne : (bytesOf s).drop a ≠ [] := by
        intro e
        rw [e, List.length_nil] at hlen
        omega
      have hb : ∀ x ∈ (bytesOf s).drop a, 0 ≤ x ∧ x ≤ 255 := fun x hx => bytesOf_in s x (List.mem_of_mem_drop hx)
      rw [if_pos (by omega), if_neg hne, specNext s a h hs k (by omega)]
      simp only [Option.bind_some]
      unfold nextL
      by_cases hg : goodL ((bytesOf s).drop a) = true
      · obtain ⟨z1, z2⟩ := dec_size hb hne hg
        rw [hlen] at z2
        rw [if_pos hg]
        show (if ((dec ((bytesOf s).drop a)).2 : Int) = 0 then some (([] : List Int), false) else _) = _
        rw [if_neg (by omega)]
        by_cases h80 : out.length = 80
        · rw [if_pos (by omega), if_neg (by rintro ⟨_, e⟩; exact e h80)]
        · obtain ⟨n, rfl⟩ : ∃ m, n = m + 1 := ⟨n - 1, by omega⟩
          rw [if_neg (by omega), if_pos (by omega), if_pos ⟨hg, h80⟩, w64 (by omega) (by omega), List.drop_drop]
          have := specGet_l0 n s (a + (dec ((bytesOf s).drop a)).2) (out ++ [((dec ((bytesOf s).drop a)).1 : Int)]) k f (by omega) (by omega) hs (by rw [List.length_append, List.length_cons, List.length_nil]; omega) (by omega) (by omega)
          rw [Int.natCast_add] at this
          exact this
      · rw [if_neg hg]
        show (if (0 : Int) = 0 then some (([] : List Int), false) else _) = _
        rw [if_pos rfl, if_neg (by rintro ⟨e, _⟩; exact hg e)]
    · have hnil : (bytesOf s).drop a = [] := List.eq_nil_of_length_eq_zero (by rw [hlen]; omega)
      rw [if_neg (by omega), if_pos hnil]
theorem specGet (s : ByteArray) (hs : s.size ≤ 1000000) (k : Nat) (hk : s.size + 12 ≤ k) : spec_Utf8Get.f k s = some (getL (bytesOf s)) := by
  unfold spec_Utf8Get.f getL
  rw [bytesOf_length]
  have := specGet_l0 s.size s 0 [] k (s.size + 1) (by omega) (by omega) hs (by simp) hk (by omega)
  rw [List.drop_zero] at this
  exact this

/-! what is drawn: a reader of bytes -/
theorem xor_i64 (a b : Nat) (ha : a < 2 ^ 40) (hb : b < 2 ^ 40) : bits .xor .i64 (a : Int) (b : Int) = ((a ^^^ b : Nat) : Int) := by
  have hp : (2 : Nat) ^ 40 ≤ 2 ^ IntKind.i64.bits := by decide
  have ha' : a % 2 ^ IntKind.i64.bits = a := Nat.mod_eq_of_lt (Nat.lt_of_lt_of_le ha hp)
  have hb' : b % 2 ^ IntKind.i64.bits = b := Nat.mod_eq_of_lt (Nat.lt_of_lt_of_le hb hp)
  simp only [bits, BitVec.ofInt_natCast, BitVec.toNat_xor, BitVec.toNat_ofNat, ha', hb']
  have h := Nat.xor_lt_two_pow ha hb
  rw [IntKind.wrap_i64]
  omega
theorem xor_pos {x y : Int} (hx : 0 ≤ x) (hx' : x < 1099511627776) (hy : 0 ≤ y) (hy' : y < 1099511627776) : 0 ≤ bits .xor .i64 x y ∧ bits .xor .i64 x y < 1099511627776 := by
  obtain ⟨a, rfl⟩ := Int.eq_ofNat_of_zero_le hx
  obtain ⟨b, rfl⟩ := Int.eq_ofNat_of_zero_le hy
  have ha : a < 2 ^ 40 := by omega
  have hb : b < 2 ^ 40 := by omega
  rw [xor_i64 a b ha hb]
  have h := Nat.xor_lt_two_pow ha hb
  omega
theorem tmod_in {x n : Int} (hx : 0 ≤ x) (hn : 0 < n) : 0 ≤ Int.tmod x n ∧ Int.tmod x n < n := by
  rw [Int.tmod_eq_emod_of_nonneg hx]
  exact ⟨Int.emod_nonneg _ (by omega), Int.emod_lt_of_pos _ hn⟩
theorem tdiv_in {x n : Int} (hx : 0 ≤ x) (hn : 0 < n) : 0 ≤ Int.tdiv x n ∧ Int.tdiv x n ≤ x := by
  rw [Int.tdiv_eq_ediv_of_nonneg hx]
  exact ⟨Int.ediv_nonneg hx (by omega), Int.ediv_le_self _ hx⟩
/-- bytes -/
def Bytes (b : List Int) : Prop := b.length ≤ 2000 ∧ ∀ x ∈ b, 0 ≤ x ∧ x ≤ 255
theorem rd_byte {b : List Int} (hb : Bytes b) {i : Int} (h : i < b.length) (h0 : 0 ≤ i) : 0 ≤ rd b i ∧ rd b i ≤ 255 := by
  unfold rd
  have hi : i.toNat < b.length := by omega
  rw [List.getD_eq_getElem?_getD, List.getElem?_eq_getElem hi]
  exact hb.2 _ (List.getElem_mem hi)
theorem pick_ok {b : List Int} (hb : Bytes b) (p n : Int) (hp : 0 ≤ p) (hp' : p ≤ 1000000) (k : Nat) (hk : 1 ≤ k) :
    ∃ v, spec_l1Rd_pick.f k b p n = some (v, p + 1) ∧ 0 ≤ v ∧ (1 ≤ n → v < n) ∧ (n < 1 → v = 0) := by
  obtain ⟨k, rfl⟩ : ∃ m, k = m + 1 := ⟨k - 1, by omega⟩
  have hl := hb.1
  have e1 : wrap64 (p + 1) = p + 1 := w64 (by omega) (by omega)
  have e2 : wrap64 (p + 1 - 1) = p := by rw [w64 (by omega) (by omega)]; omega
  unfold spec_l1Rd_pick.f
  by_cases hn : n < 1
  · rw [if_pos hn, e1]
    simp only [spec_l1Rd_pick.j0, if_true]
    exact ⟨0, rfl, by omega, by omega, fun _ => rfl⟩
  · rw [if_neg hn, e1]
    by_cases h0 : b.length = 0
    · have e0 : ((b.length : Int) == 0) = true := by simp [h0]
      simp only [spec_l1Rd_pick.j0, e0, if_true]
      exact ⟨0, rfl, by omega, by omega, fun _ => rfl⟩
    · have e0 : ((b.length : Int) == 0) = false := by simp; intro h; exact h0 (by rw [h]; rfl)
      have hlen : (0 : Int) < b.length := by omega
      simp only [spec_l1Rd_pick.j0, e0, e2, Bool.false_eq_true, if_false]
      have hn0 : ¬ n = 0 := by omega
      by_cases hlt : p < (b.length : Int)
      · rw [if_pos hlt, if_pos hp, if_neg hn0]
        obtain ⟨r0, r1⟩ := rd_byte hb hlt hp
        rw [w64 (by omega) (by omega)]
        have h := tmod_in r0 (show 0 < n by omega)
        exact ⟨_, rfl, h.1, fun _ => h.2, fun h' => absurd h' hn⟩
      · have m1 := tmod_in hp hlen
        have e7 : wrap64 (wrap64 (p * 7) + 3) = p * 7 + 3 := by rw [w64 (x := p * 7) (by omega) (by omega), w64 (by omega) (by omega)]
        have m2 := tmod_in (show 0 ≤ p * 7 + 3 by omega) hlen
        have r1 := rd_byte hb m1.2 m1.1
        have r2 := rd_byte hb m2.2 m2.1
        have d1 := tdiv_in hp hlen
        rw [if_neg hlt, if_neg (by omega), if_pos m1.1, if_pos m1.2, e7, if_pos m2.1, if_pos m2.2, if_neg hn0]
        generalize rd b (Int.tmod p (b.length : Int)) = x1 at *
        generalize rd b (Int.tmod (p * 7 + 3) (b.length : Int)) = x2 at *
        generalize Int.tdiv p (b.length : Int) = x3 at *
        have eX : wrap64 (wrap64 (wrap64 (wrap64 (wrap64 x1 * 131) + wrap64 (wrap64 x2 * 1117)) + wrap64 (p * 29)) + wrap64 (wrap64 x3 * 53)) = x1 * 131 + x2 * 1117 + p * 29 + x3 * 53 := by
          rw [w64 (x := x1) (by omega) (by omega), w64 (x := x2) (by omega) (by omega), w64 (x := x3) (by omega) (by omega), w64 (x := x1 * 131) (by omega) (by omega), w64 (x := x2 * 1117) (by omega) (by omega), w64 (x := p * 29) (by omega) (by omega), w64 (x := x3 * 53) (by omega) (by omega), w64 (x := x1 * 131 + x2 * 1117) (by omega) (by omega), w64 (x := x1 * 131 + x2 * 1117 + p * 29) (by omega) (by omega), w64 (by omega) (by omega)]
        rw [eX]
        have hX0 : 0 ≤ x1 * 131 + x2 * 1117 + p * 29 + x3 * 53 := by omega
        have hX1 : x1 * 131 + x2 * 1117 + p * 29 + x3 * 53 < 1000000000 := by omega
        generalize x1 * 131 + x2 * 1117 + p * 29 + x3 * 53 = X at *
        have d2 := tdiv_in hX0 (show (0 : Int) < 64 by omega)
        rw [w64 (x := Int.tdiv X 64) (by omega) (by omega)]
        have hx := xor_pos hX0 (by omega) d2.1 (by omega)
        have h := tmod_in hx.1 (show 0 < n by omega)
        exact ⟨_, rfl, h.1, fun _ => h.2, fun h' => absurd h' hn⟩
theorem open_ok {l : List Int} (h : ∀ x ∈ l, (Lit.int .u8 x).wf = true) : ∃ b, spec_l1Open.f l = some (b, 0) ∧ Bytes b := by
  unfold spec_l1Open.f
  by_cases h1 : (l.length : Int) > 2000
  · rw [if_pos h1, if_pos (by omega)]
    exact ⟨_, rfl, by rw [List.length_take]; omega, fun x hx => in_u8 (h x (List.mem_of_mem_take hx))⟩
  · rw [if_neg h1]
    exact ⟨_, rfl, by omega, fun x hx => in_u8 (h x hx)⟩

theorem one_ok {b : List Int} (hb : Bytes b) (p : Int) (hp : 0 ≤ p) (hp' : p ≤ 1000000) (l : List Int) (hl : 1 ≤ l.length) (k : Nat) (hk : 1 ≤ k) :
    ∃ v, spec_l1Rd_one.f k b p l = some (v, p + 1) ∧ v ∈ l := by
  obtain ⟨v, e, h0, h1, _⟩ := pick_ok hb p (l.length : Int) hp hp' k hk
  unfold spec_l1Rd_one.f
  rw [e]
  simp only [Option.bind_some]
  have h2 := h1 (by omega)
  rw [if_pos h0, if_pos h2]
  refine ⟨_, rfl, ?_⟩
  unfold rd
  have hi : v.toNat < l.length := by omega
  rw [List.getD_eq_getElem?_getD, List.getElem?_eq_getElem hi]
  exact List.getElem_mem hi

/-- a number that is drawn as a letter -/
def LRange (v : Int) : Prop := 0 ≤ v ∧ v ≤ 1114111
theorem rune_ok {b : List Int} (hb : Bytes b) (p : Int) (hp : 0 ≤ p) (hp' : p ≤ 900000) (k : Nat) (hk : 10 ≤ k) :
    ∃ v q, spec_l13Rune.f k b p = some (v, q) ∧ p ≤ q ∧ q ≤ p + 2 ∧ LRange v := by
  obtain ⟨k, rfl⟩ : ∃ m, k = m + 10 := ⟨k - 10, by omega⟩
  obtain ⟨v, e, h0, h1, _⟩ := pick_ok hb p 16 hp (by omega) (k + 10) (by omega)
  have h2 := h1 (by omega)
  unfold spec_l13Rune.f
  rw [e]
  have one : ∀ (l : List Int) (j : Nat), 1 ≤ l.length → 1 ≤ j → (∀ x ∈ l, LRange x) → ∃ u q, ((spec_l1Rd_one.f j b (p + 1) l).bind fun bt => some (bt.1, bt.2)) = some (u, q) ∧ p ≤ q ∧ q ≤ p + 2 ∧ LRange u := by
    intro l j h3 h4 h5
    obtain ⟨u, e1, h6⟩ := one_ok hb (p + 1) (by omega) (by omega) l h3 j h4
    exact ⟨u, p + 1 + 1, by rw [e1]; rfl, by omega, by omega, h5 u h6⟩
  simp only [Option.bind_some]
  have hv : v = 0 ∨ v = 1 ∨ v = 2 ∨ v = 3 ∨ v = 4 ∨ v = 5 ∨ v = 6 ∨ v = 7 ∨ v = 8 ∨ v = 9 ∨ v = 10 ∨ v = 11 ∨ v = 12 ∨ v = 13 ∨ v = 14 ∨ v = 15 := by omega
  rcases hv with rfl | rfl | rfl | rfl | rfl | rfl | rfl | rfl | rfl | rfl | rfl | rfl | rfl | rfl | rfl | rfl
  all_goals simp only [spec_l13Rune.j0, spec_l13Rune.j1, spec_l13Rune.j2, Int.reduceEq, Int.reduceBEq, if_true, if_false, ↓reduceIte, Bool.false_eq_true, beq_self_eq_true]
  all_goals first
    | exact ⟨32, p + 1, rfl, by omega, by omega, by unfold LRange; omega⟩
    | exact one _ _ (by simp) (by omega) (by simp [LRange])

theorem runes_l1 {b : List Int} (hb : Bytes b) : ∀ (n : Nat) (out : List Int) (p : Int) (k : Nat), out.length + n = 80 → 0 ≤ p → p + n ≤ 900000 → (∀ x ∈ out, LRange x) → n + 1 ≤ k →
    ∃ v q, spec_l13Runes.l1 k out b p = some (v, q) ∧ v.length ≤ 80 ∧ (∀ x ∈ v, LRange x) ∧ p ≤ q ∧ q ≤ p + n
  | 0, out, p, k, ho, hp, hp', hx, hk => by
    obtain ⟨k, rfl⟩ : ∃ m, k = m + 1 := ⟨k - 1, by omega⟩
    simp only [spec_l13Runes.l1]
    rw [if_neg (by omega)]
    exact ⟨_, _, rfl, by omega, hx, by omega, by omega⟩
  | n + 1, out, p, k, ho, hp, hp', hx, hk => by
    obtain ⟨k, rfl⟩ : ∃ m, k = m + 1 := ⟨k - 1, by omega⟩
    simp only [spec_l13Runes.l1]
    rw [if_pos (by omega)]
    obtain ⟨u, e1, h3⟩ := one_ok hb p (by omega) (by omega) [8235, 8238, 8295, 1488, 97] (by simp) k (by omega)
    rw [e1]
    simp only [Option.bind_some]
    rw [if_pos (by omega)]
    have hu : LRange u := by simp at h3; unfold LRange; omega
    obtain ⟨v, q, g1, g2, g3, g4, g5⟩ := runes_l1 hb n (out ++ [u]) (p + 1) k (by simp; omega) (by omega) (by omega) (fun x hx' => by
      rcases List.mem_append.1 hx' with h | h
      · exact hx x h
      · simp at h
        exact h ▸ hu) (by omega)
    exact ⟨v, q, g1, g2, g3, by omega, by omega⟩
theorem runes_l0 {b : List Int} (hb : Bytes b) : ∀ (n : Nat) (out : List Int) (p : Int) (k : Nat), out.length + n ≤ 80 → 0 ≤ p → p + 2 * n ≤ 800000 → (∀ x ∈ out, LRange x) → n + 100 ≤ k →
    ∃ v q, spec_l13Runes.l0 k out (n : Int) b p = some (v, q) ∧ v.length ≤ 80 ∧ (∀ x ∈ v, LRange x) ∧ p ≤ q ∧ q ≤ p + 2 * n + 81
  | 0, out, p, k, ho, hp, hp', hx, hk => by
    obtain ⟨k, rfl⟩ : ∃ m, k = m + 1 := ⟨k - 1, by omega⟩
    simp only [spec_l13Runes.l0]
    rw [if_neg (by omega)]
    obtain ⟨v, e, h0, h1, _⟩ := pick_ok hb p 24 hp (by omega) k (by omega)
    rw [e]
    simp only [Option.bind_some]
    by_cases hv : v = 0
    · rw [if_pos hv]
      obtain ⟨v, q, g1, g2, g3, g4, g5⟩ := runes_l1 hb (80 - out.length) out (p + 1) k (by omega) (by omega) (by omega) hx (by omega)
      exact ⟨v, q, g1, g2, g3, by omega, by omega⟩
    · rw [if_neg hv]
      exact ⟨_, _, rfl, by omega, hx, by omega, by omega⟩
  | n + 1, out, p, k, ho, hp, hp', hx, hk => by
    obtain ⟨k, rfl⟩ : ∃ m, k = m + 1 := ⟨k - 1, by omega⟩
    simp only [spec_l13Runes.l0]
    rw [if_pos (by omega)]
    obtain ⟨u, q, e1, h2, h3, hu⟩ := rune_ok hb p (by omega) (by omega) k (by omega)
    rw [e1]
    simp only [Option.bind_some]
    rw [if_pos (by omega)]
    have e6 : wrap64 (((n + 1 : Nat) : Int) - 1) = (n : Int) := by rw [w64 (by omega) (by omega)]; omega
    rw [e6]
    obtain ⟨v, q', g1, g2, g3, g4, g5⟩ := runes_l0 hb n (out ++ [u]) q k (by simp; omega) (by omega) (by omega) (fun x hx' => by
      rcases List.mem_append.1 hx' with h | h
      · exact hx x h
      · simp at h
        exact h ▸ hu) (by omega)
    exact ⟨v, q', g1, g2, g3, by omega, by omega⟩
theorem runes_ok {b : List Int} (hb : Bytes b) (p : Int) (hp : 0 ≤ p) (hp' : p ≤ 700000) (k : Nat) (hk : 150 ≤ k) :
    ∃ v q, spec_l13Runes.f k b p = some (v, q) ∧ v.length ≤ 80 ∧ (∀ x ∈ v, LRange x) ∧ p ≤ q ∧ q ≤ p + 200 := by
  obtain ⟨n, e, h0, h1, _⟩ := pick_ok hb p 24 hp (by omega) k (by omega)
  have h2 := h1 (by omega)
  unfold spec_l13Runes.f
  rw [e]
  simp only [Option.bind_some]
  obtain ⟨m, rfl⟩ : ∃ m : Nat, n = m := ⟨n.toNat, by omega⟩
  obtain ⟨v, q, g1, g2, g3, g4, g5⟩ := runes_l0 hb m [] (p + 1) k (by simp; omega) (by omega) (by omega) (by simp) (by omega)
  exact ⟨v, q, g1, g2, g3, by omega, by omega⟩

theorem of_ok {b : List Int} (hb : Bytes b) (p : Int) (hp : 0 ≤ p) (hp' : p ≤ 1000000) (l : List ByteArray) (hl : 1 ≤ l.length) (k : Nat) (hk : 1 ≤ k) :
    ∃ v, spec_l1Rd_of.f k b p l = some (v, p + 1) ∧ v ∈ l := by
  obtain ⟨v, e, h0, h1, _⟩ := pick_ok hb p (l.length : Int) hp hp' k hk
  unfold spec_l1Rd_of.f
  rw [e]
  simp only [Option.bind_some]
  have h2 := h1 (by omega)
  rw [if_pos h0, if_pos h2]
  refine ⟨_, rfl, ?_⟩
  unfold rdOf
  have hi : v.toNat < l.length := by omega
  rw [List.getD_eq_getElem?_getD, List.getElem?_eq_getElem hi]
  exact List.getElem_mem hi
theorem putL_size {l : List Int} (hl : l.length ≤ 80) : (putL l).size ≤ 320 := by
  unfold putL
  have := encAll_len l
  by_cases h : okT l = true
  · rw [if_pos h, strOfNums_size]
    omega
  · rw [if_neg h]
    exact Nat.zero_le _
theorem drawText {l0 : List Int} (h : ∀ x ∈ l0, (Lit.int .u8 x).wf = true) (k : Nat) (hk : 400 ≤ k) : ∃ s, spec_DrawUtf8Get.f k l0 = some s ∧ s.size ≤ 400 := by
  obtain ⟨b, e, hb⟩ := open_ok h
  unfold spec_DrawUtf8Get.f
  rw [e]
  simp only [Option.bind_some]
  obtain ⟨v, q, g1, g2, g3, g4, g5⟩ := runes_ok hb 0 (by omega) (by omega) k (by omega)
  rw [g1]
  simp only [Option.bind_some]
  rw [specPut v (by omega) k (by omega)]
  simp only [Option.bind_some]
  have hz := putL_size g2
  generalize putL v = t at hz
  obtain ⟨c, e1, c0, c1, _⟩ := pick_ok hb q 4 (by omega) (by omega) k (by omega)
  rw [e1]
  simp only [Option.bind_some]
  by_cases hc : c = 0
  · obtain ⟨x, f1, f2⟩ := of_ok hb (q + 1) (by omega) (by omega) [(⟨#[128]⟩ : ByteArray), (⟨#[195]⟩ : ByteArray), (⟨#[192, 128]⟩ : ByteArray), (⟨#[224, 128, 128]⟩ : ByteArray), (⟨#[237, 160, 128]⟩ : ByteArray), (⟨#[244, 144, 128, 128]⟩ : ByteArray), (⟨#[240, 159, 152]⟩ : ByteArray), (⟨#[255]⟩ : ByteArray), (⟨#[193, 191]⟩ : ByteArray)] (by simp) k (by omega)
    have hx : x.size ≤ 4 := by
      simp only [List.mem_cons, List.mem_nil_iff, or_false] at f2
      rcases f2 with rfl | rfl | rfl | rfl | rfl | rfl | rfl | rfl | rfl <;> decide
    obtain ⟨y, f3, f4⟩ := of_ok hb (q + 1 + 1) (by omega) (by omega) [(⟨#[]⟩ : ByteArray), (⟨#[97]⟩ : ByteArray)] (by simp) k (by omega)
    have hy : y.size ≤ 1 := by
      simp only [List.mem_cons, List.mem_nil_iff, or_false] at f4
      rcases f4 with rfl | rfl <;> decide
    rw [if_pos hc, f1]
    simp only [Option.bind_some]
    rw [if_pos (by omega), f3]
    simp only [Option.bind_some]
    have hs : (t ++ x ++ y).size ≤ 400 := by
      rw [ByteArray.size_append, ByteArray.size_append]
      omega
    have hs2 : (t ++ x).size + y.size ≤ 9223372036854775807 := by
      rw [ByteArray.size_append]
      omega
    rw [if_pos hs2]
    exact ⟨_, rfl, hs⟩
  · rw [if_neg hc]
    by_cases hc1 : c = 1
    · rw [if_pos hc1, w64 (by omega) (by omega)]
      obtain ⟨d, f1, d0, d1, _⟩ := pick_ok hb (q + 1) ((t.size : Int) + 1) (by omega) (by omega) k (by omega)
      have d2 := d1 (by omega)
      rw [f1]
      simp only [Option.bind_some]
      rw [if_pos d0, if_pos (by omega)]
      refine ⟨_, rfl, ?_⟩
      rw [ByteArray.size_extract]
      omega
    · rw [if_neg hc1]
      exact ⟨_, rfl, by omega⟩

theorem wcInts_l0 : ∀ (suf pre : List Int) (k : Nat), (pre ++ suf).length ≤ 4000000 → suf.length + 1 ≤ k → laws_wcInts.l0 k (pre ++ suf) (pre ++ suf) (pre.length : Int) = some true
  | [], pre, k, hl, hk => by
    obtain ⟨k, rfl⟩ : ∃ m, k = m + 1 := ⟨k - 1, by simp at hk; omega⟩
    simp only [laws_wcInts.l0]
    rw [if_neg (len_end pre)]
  | x :: suf, pre, k, hl, hk => by
    obtain ⟨k, rfl⟩ : ∃ m, k = m + 1 := ⟨k - 1, by simp at hk; omega⟩
    simp only [laws_wcInts.l0]
    have hp : (pre.length : Int) ≤ 4000000 := by simp at hl; omega
    rw [if_pos (len_mid pre x suf), if_pos (by omega), if_pos (len_mid pre x suf), if_pos trivial, w64_len (by omega) (by omega), ← len_snoc pre x, app_cons pre x suf]
    exact wcInts_l0 suf (pre ++ [x]) k (by simpa using hl) (by simp at hk; omega)
theorem wcInts_ok (l : List Int) (hl : l.length ≤ 4000000) (k : Nat) (hk : l.length + 1 ≤ k) : laws_wcInts.f k l l = some true := by
  unfold laws_wcInts.f
  rw [if_pos rfl]
  exact wcInts_l0 l [] k (by simpa using hl) hk

theorem enc8_head {x : Int} (hx : isL x = true) : ∃ b t, enc8 x = b :: t ∧ ¬ (128 ≤ b ∧ b < 192) := by
  obtain ⟨h0, h1, h2⟩ := isL_in hx
  unfold enc8
  repeat' split
  all_goals exact ⟨_, _, rfl, by omega⟩
theorem cut_no : ∀ (d x rest : List Int), (∀ y ∈ d, isL y = true) → (∀ y ∈ x, isL y = true) → encAll d ++ rest = encAll x → rest ≠ [] → ∃ b t, rest = b :: t ∧ ¬ (128 ≤ b ∧ b < 192)
  | [], x, rest, hd, hx, h, hr => by
    have h' : rest = encAll x := h
    match x with
    | [] => exact absurd h' hr
    | y :: x =>
      obtain ⟨b, t, e, hb⟩ := enc8_head (hx y (by simp))
      have e2 : encAll (y :: x) = enc8 y ++ encAll x := rfl
      rw [e2, e] at h'
      exact ⟨b, t ++ encAll x, h', hb⟩
  | c :: d, x, rest, hd, hx, h, hr => by
    have e1 : encAll (c :: d) = enc8 c ++ encAll d := rfl
    rw [e1, List.append_assoc] at h
    match x with
    | [] =>
      have := congrArg List.length h
      have hc := enc8_len c
      have e3 : encAll [] = [] := rfl
      rw [e3, List.length_append, List.length_nil] at this
      omega
    | y :: x =>
      have e2 : encAll (y :: x) = enc8 y ++ encAll x := rfl
      rw [e2] at h
      have hc := hd c (by simp)
      have hy := hx y (by simp)
      have hdc := dec_enc hc (encAll d ++ rest)
      rw [h, dec_enc hy] at hdc
      have hcy := (Prod.mk.inj hdc).1
      obtain ⟨i0, _⟩ := isL_in hc
      obtain ⟨i1, _⟩ := isL_in hy
      obtain rfl : c = y := by omega
      exact cut_no d x rest (fun z hz => hd z (List.mem_cons_of_mem _ hz)) (fun z hz => hx z (List.mem_cons_of_mem _ hz)) (List.append_cancel_left h) hr
theorem cut_here {a : ByteArray} {x : List Int} (hx : ∀ y ∈ x, isL y = true) (ha : bytesOf a = encAll x) (i : Nat) (hi : i < a.size) (h1 : 128 ≤ bt a (i : Int)) (h2 : bt a (i : Int) < 192) : (getL (bytesOf (a.extract 0 i))).2 = false := by
  obtain ⟨r, b, hr⟩ : ∃ r b, getL (bytesOf (a.extract 0 i)) = (r, b) := ⟨_, _, rfl⟩
  rw [hr]
  cases b with
  | false => rfl
  | true =>
    exfalso
    obtain ⟨q1, q2, q3⟩ := getL_read (bytesOf_in _) hr
    rw [bytesOf_extract, List.drop_zero] at q2
    have hne : (bytesOf a).drop i ≠ [] := by
      intro e
      have := congrArg List.length e
      rw [List.length_drop, bytesOf_length, List.length_nil] at this
      omega
    obtain ⟨b, t, e, hb⟩ := cut_no r x ((bytesOf a).drop i) q1 hx (by rw [← q2, List.take_append_drop, ha]) hne
    have hbt := bt_drop a i 0
    rw [e] at hbt
    have hbt2 : bt a (i : Int) = b := by simpa using hbt
    rw [hbt2] at h1 h2
    exact hb ⟨h1, h2⟩
theorem cut_l0 {a : ByteArray} {x y : List Int} (hx : ∀ y ∈ x, isL y = true) (ha : bytesOf a = encAll x) (hs : a.size ≤ 400) (hxl : x.length ≤ 80) (hyl : y.length ≤ 80) : ∀ (n i k : Nat), a.size - i = n → i ≤ a.size → 2 * n + 1000 ≤ k → laws_FnUtf8Cut.l0 k a x y (x ++ y) true (i : Int) = some true
  | 0, i, k, hn, hi, hk => by
    obtain ⟨k, rfl⟩ : ∃ m, k = m + 1 := ⟨k - 1, by omega⟩
    rw [laws_FnUtf8Cut.l0, if_neg (by omega), if_pos rfl, if_pos (by omega), if_pos (by rw [List.length_append]; omega), Int.toNat_natCast, List.take_left, wcInts_ok x (by omega) k (by omega)]
    simp only [Option.bind_some, if_true]
    rw [List.drop_left, wcInts_ok y (by omega) k (by omega)]
    rfl
  | n + 1, i, k, hn, hi, hk => by
    obtain ⟨k, rfl⟩ : ∃ m, k = m + 2 := ⟨k - 2, by omega⟩
    have ih := cut_l0 hx ha hs hxl hyl n (i + 1) k (by omega) (by omega) (by omega)
    have hw : wrap64 ((i : Int) + 1) = ((i + 1 : Nat) : Int) := by rw [w64 (by omega) (by omega)]; rfl
    have on : laws_FnUtf8Cut.j3 (k + 1) a x y (x ++ y) true (i : Int) false = some true := by
      rw [laws_FnUtf8Cut.j3, if_neg (by decide), hw]
      exact ih
    rw [laws_FnUtf8Cut.l0, if_pos (by omega), if_pos (by omega)]
    by_cases c1 : bt a (i : Int) ≥ 128
    · rw [if_pos c1]
      by_cases c2 : bt a (i : Int) < 192
      · rw [decide_eq_true c2, laws_FnUtf8Cut.j3, if_pos rfl, if_pos (by omega), if_pos (by omega), Int.toNat_natCast, implGet (a.extract 0 i) k (by rw [ByteArray.size_extract]; omega)]
        simp only [Option.bind_some]
        rw [cut_here hx ha i (by omega) c1 c2, if_neg (by decide), hw]
        exact ih
      · rw [decide_eq_false c2]
        exact on
    · rw [if_neg c1]
      exact on
theorem cut_j0 {l0 l1 : List Int} (h0 : ∀ x ∈ l0, (Lit.int .u8 x).wf = true) (h1 : ∀ x ∈ l1, (Lit.int .u8 x).wf = true) (k : Nat) (hk : 4000 ≤ k) : laws_FnUtf8Cut.j0 k l0 l1 false = some true := by
  obtain ⟨k, rfl⟩ : ∃ m, k = m + 2 := ⟨k - 2, by omega⟩
  rw [laws_FnUtf8Cut.j0, if_neg (by decide)]
  obtain ⟨a, e, ha⟩ := drawText h0 (k + 1) (by omega)
  obtain ⟨b, e2, hb⟩ := drawText h1 (k + 1) (by omega)
  rw [e]
  simp only [Option.bind_some]
  rw [e2]
  simp only [Option.bind_some]
  rw [implGet a (k + 1) (by omega), implGet b (k + 1) (by omega), specGet a (by omega) (k + 1) (by omega)]
  simp only [Option.bind_some]
  obtain ⟨x, p, hx⟩ : ∃ x p, getL (bytesOf a) = (x, p) := ⟨_, _, rfl⟩
  obtain ⟨y, q, hy⟩ : ∃ y q, getL (bytesOf b) = (y, q) := ⟨_, _, rfl⟩
  rw [hx, hy]
  have hxl : x.length ≤ 80 := by
    cases p with
    | true => exact (getL_read (bytesOf_in a) hx).2.2
    | false =>
      rw [getL_none hx]
      simp
  have hne : ((x, p).2 != (x, p).2) = false := by simp
  rw [if_neg (by rw [hne]; decide), wcInts_ok x (by omega) (k + 1) (by omega)]
  simp only [Option.bind_some, if_true]
  have off : laws_FnUtf8Cut.j1 (k + 1) a b x p y x p true = some true := by
    rw [laws_FnUtf8Cut.j1, if_pos rfl, if_pos (by simp), wcInts_ok x (by omega) k (by omega)]
    rfl
  cases p with
  | false =>
    rw [if_neg (by decide)]
    exact off
  | true =>
    rw [if_pos rfl]
    cases q with
    | false =>
      rw [if_neg (by decide)]
      exact off
    | true =>
      rw [if_pos rfl]
      obtain ⟨x1, x2, x3⟩ := getL_read (bytesOf_in a) hx
      obtain ⟨y1, y2, y3⟩ := getL_read (bytesOf_in b) hy
      rw [w64 (by omega) (by omega)]
      by_cases c : (x.length : Int) + (y.length : Int) > 80
      · rw [decide_eq_true c]
        exact off
      · rw [decide_eq_false c, laws_FnUtf8Cut.j1, if_neg (by decide), if_pos (by omega), implGet (a ++ b) k (by rw [ByteArray.size_append]; omega)]
        simp only [Option.bind_some]
        have e4 : bytesOf (a ++ b) = encAll (x ++ y) := by
          rw [bytesOf_append, x2, y2]
          unfold encAll
          rw [List.flatMap_append]
        have e5 : getL (bytesOf (a ++ b)) = (x ++ y, true) := by
          rw [e4]
          exact getL_write (fun z hz => (List.mem_append.1 hz).elim (x1 z) (y1 z)) (by rw [List.length_append]; omega)
        rw [e5]
        exact cut_l0 x1 x2 ha x3 y3 a.size 0 k (by omega) (by omega) (by omega)
theorem FnUtf8Cut : laws_FnUtf8Cut.Pure := by
  intro l0 l1 _ _ h0 _ _ h1
  refine ⟨5000, ?_⟩
  generalize hK : 5000 = K
  unfold laws_FnUtf8Cut.f
  have ht : laws_FnUtf8Cut.j0 K l0 l1 true = some true := by
    obtain ⟨k, rfl⟩ : ∃ m, K = m + 1 := ⟨K - 1, by omega⟩
    rw [laws_FnUtf8Cut.j0, if_pos rfl]
  by_cases c0 : (l0.length : Int) > 1048576
  · rw [if_pos c0]
    exact ht
  · rw [if_neg c0]
    by_cases c1 : (l1.length : Int) > 1048576
    · rw [decide_eq_true c1]
      exact ht
    · rw [decide_eq_false c1]
      exact cut_j0 h0 h1 K (by omega)

end Go.Proofs.YtfpmeahdfipeeaaDoor.Pure
