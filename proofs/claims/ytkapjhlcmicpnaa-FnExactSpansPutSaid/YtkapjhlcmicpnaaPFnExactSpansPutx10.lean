-- Written by a program of this session (wip/tools) out of the translation; its shape is that of the kit print.
import Derived.Test.YtkapjhlcmicpnaaPFnExactSpansPutx0
import Derived.Test.YtkapjhlcmicpnaaPFnExactSpansPutx6
import Derived.Test.YtkapjhlcmicpnaaPFnExactSpansPutx7
import Derived.Test.YtkapjhlcmicpnaaPFnExactSpansPutx9
namespace Go.Proofs.Ytkapjhlcmicpnaa.PFnExactSpansPut
open Go.RowKit Go.Proofs.YtkapjhlcmicpnaaW.PrintWords Go.Proofs.YtkapjhlcmicpnaaW.PrintLast Go.Proofs.YtkapjhlcmicpnaaW.PrintMore
attribute [local go_sem] max2_int min2_int max_two min_two max_three min_three max_four min_four   -- for this text's walks alone
set_option linter.unusedVariables false
set_option linter.unusedSimpArgs false

def partN (at_ m a2 a3 : Int) : Int :=
  if wrap64 ((if a3 ≤ wrap64 (at_ + m) then a3 else wrap64 (at_ + m)) - if at_ ≤ a2 then a2 else at_) ≤ 0 then 0 else wrap64 ((if a3 ≤ wrap64 (at_ + m) then a3 else wrap64 (at_ + m)) - if at_ ≤ a2 then a2 else at_)
theorem LkAt.avoid {ok : Nat → Prop} {n₀ g : Nat} {W : World} {l : List S108} (h : LkAt ok n₀ W g l) (o : Obj) : LkAt (fun k => ok k ∧ k ≠ W.heap.size) n₀ (W.alloc o) g l := by
  have h' := h.below ((Below.refl _ W).alloc (Nat.le_refl _) o)
  obtain ⟨h0, hk1, A, c, h1, h2, h3⟩ := h
  have hb := Kd.R_bound h2
  have h2' : Kd.R k108 108 W n₀ (fun k => ok k ∧ k ≠ W.heap.size) (.slice A l.length c) l := Kd.R_mono hb (fun k hk => ⟨hk.1, by have := hk.2.2.1; omega⟩)
  exact ⟨h0, fun k hk => hk1 k hk.1, A, c, (Below.heap_alloc _ _ g (blk_lt h1)).trans h1, Kd.R_alloc h2' o, h3⟩
theorem LkAt.weaken {ok : Nat → Prop} {n₀ g x : Nat} {W : World} {l : List S108} (h : LkAt (fun k => ok k ∧ k ≠ x) n₀ W g l) (hg : ∀ k, ok k → k ≠ g) : LkAt ok n₀ W g l := by
  obtain ⟨h0, hk1, A, c, h1, h2, h3⟩ := h
  exact ⟨h0, hg, A, c, h1, Kd.R_mono h2 (fun _ hk => hk.1), h3⟩
theorem KeepT.trans {ok : Nat → Prop} {g : Nat} {A B C : World} (h : KeepT ok g A B) (k : KeepT ok g B C) : KeepT ok g A C := fun i o hi hg hno => k i o (h i o hi hg hno) hg hno
def partGo : List S108 → List S108 → Int → Int → Int → List S108
  | [], l, _, _, _ => l
  | s :: r, l, at_, a2, a3 => partGo r (addS l s.f0 s.f1 (partN at_ s.f2 a2 a3)) (wrap64 (at_ + s.f2)) a2 a3
theorem partGo_len : ∀ (r l : List S108) (a a2 a3 : Int), (partGo r l a a2 a3).length ≤ l.length + r.length
  | [], l, a, a2, a3 => by simp [partGo]
  | s :: r, l, a, a2, a3 => by
    have h1 := partGo_len r (addS l s.f0 s.f1 (partN a s.f2 a2 a3)) (wrap64 (a + s.f2)) a2 a3
    have h2 := addS_len l s.f0 s.f1 (partN a s.f2 a2 a3)
    unfold partGo
    simp only [List.length_cons]
    omega
set_option maxHeartbeats 4000000 in
set_option maxRecDepth 100000 in
/-- (*looks).part: the stretches of others, from one letter up to another one, are added. b: the block of others, which is none of g's. -/
theorem part_calls (ok : Nat → Prop) (n₀ g b : Nat) (l : List S108) (xs : List S108) (c1 : Nat) (cells : Array Value) (a2 a3 : Int) (w W0 : World) (hok2 : ∀ k, w.heap.size ≤ k → ok k) (h : LkAt ok n₀ w g l) (hl : l.length + xs.length ≤ 1000)
    (hb : w.heap[b]? = some (.cells cells 108 (0, 0))) (hnb : ¬ ok b) (hbg : b ≠ g) (hb0 : W0.heap[b]? = some (.cells cells 108 (0, 0))) (hC : Kd.C k108 W0 (some ⟨b, 0, none⟩) xs.length xs) :
    Calls Try.prog 78 #[.pointer (some ⟨g, 0, none⟩), .slice (some ⟨b, 0, none⟩) xs.length c1, .int .i64 a2, .int .i64 a3] w fun e w' => e = .returned (.tuple #[]) ∧ LkAt ok n₀ w' g (partGo xs l 0 a2 a3) ∧ Below n₀ w w' ∧ w'.heap[b]? = some (.cells cells 108 (0, 0)) ∧ KeepT ok g w w' ∧ w.heap.size ≤ w'.heap.size := by
  have hu78 := Try.underlying78
  have hu85 := Try.underlying85
  have HK2 := Aside0.mk hok2
  have HL0 := Aside0.mk h
  have HB0 := Aside0.mk hb
  have HB00 := Aside0.mk hb0
  have HNB := Aside0.mk hnb
  have HBG := Aside0.mk hbg
  have HC := Aside0.mk hC
  have HN := Aside0.mk hl
  have hbig : xs.length ≤ 9223372036854775807 := Kd.C_max hC
  clear hok2 h hb hnb hbg hC hl hb0
  obtain ⟨ad, had⟩ : ∃ ad : Addr, ad = ⟨b, 0, none⟩ := ⟨_, rfl⟩
  rw [← had] at HC ⊢
  have HAD := Aside0.mk had
  clear had
  go_enter Try.func78, Try.ntmps78
  go_wp2
  go_loopg [8, 13] xs.length (fun kq v8 v13 w' => ∃ (i : Nat) (a : Int) (q : List S108), v8 = .int .i64 a ∧ v13 = .int .i64 (i : Int) ∧ Aside0 (kq + i = xs.length) ∧ Aside0 (LkAt ok n₀ w' g q) ∧ Aside0 (partGo (xs.drop i) q a a2 a3 = partGo xs l 0 a2 a3) ∧ Aside0 (q.length + (xs.length - i) ≤ 1000) ∧ Aside0 (Below n₀ w w') ∧ Aside0 (w'.heap[b]? = some (.cells cells 108 (0, 0))) ∧ Aside0 (KeepT ok g w w') ∧ Aside0 (w.heap.size ≤ w'.heap.size))
  case atStart => exact ⟨0, 0, l, rfl, rfl, ⟨by omega⟩, HL0, ⟨rfl⟩, ⟨by have := HN.out; omega⟩, ⟨Below.refl _ _⟩, HB0, ⟨fun k o hk _ _ => hk⟩, ⟨Nat.le_refl _⟩⟩
  case round =>
    obtain ⟨i, a, q, rfl, rfl, HK, HL, HA, HQ, HB, HBB, HT, HS⟩ := hrel
    cases gk with
    | zero =>
      have hi : i = xs.length := by have := HK.out; omega
      subst hi
      have hdec : decide ((xs.length : Int) < (xs.length : Int)) = false := by simp
      go_wp2
      go_end0
      refine ⟨rfl, ?_, HB.out, HBB.out, HT.out, HS.out⟩
      have h1 := HA.out
      rw [List.drop_length] at h1
      rw [← h1]
      exact HL.out
    | succ k1 =>
      have hi : i < xs.length := by have := HK.out; omega
      have hdec : decide ((i : Int) < (xs.length : Int)) = true := decide_eq_true (by omega)
      have p1 : (0 : Int) ≤ (i : Int) := by omega
      have p2 : (i : Int) < (xs.length : Int) := by omega
      obtain ⟨ad', e1, a0', a1', a2'⟩ := at_T108 HC.out i hi
      obtain rfl : ad = ad' := by injection e1
      have eb : (ad.add (i * 3)).block = b := by rw [HAD.out]; unfold Addr.add; split <;> rfl
      have hcell : ∀ o, wr.cell? ⟨(ad.add (i * 3)).block, o, none⟩ = W0.cell? ⟨(ad.add (i * 3)).block, o, none⟩ := fun o => World.cell?_of_block (by show wr.heap[(ad.add (i * 3)).block]? = W0.heap[(ad.add (i * 3)).block]?; rw [eb, HBB.out, HB00.out])
      have d0 : wr.cell? (ad.add (i * 3)) = some (.int .i64 (xs.getD i z108).f0) := (World.cell?_of_block (by rw [eb, HBB.out, HB00.out])).trans a0'
      have d1 := (hcell _).trans a1'
      have d2 := (hcell _).trans a2'
      generalize hs0 : xs.getD i z108 = s0 at d0 d1 d2 a0' a1' a2'
      have HS0 := Aside0.mk hs0
      clear hcell eb e1 hs0 a0' a1' a2'
      have hb5 : Below wr.heap.size wr (wr.alloc (.cells #[.int .i64 s0.f0, .int .i64 s0.f1, .int .i64 s0.f2] 108)) := (Below.refl _ _).alloc (Nat.le_refl _) _
      have HG5 := Aside0.mk (blk_new wr (.cells #[.int .i64 s0.f0, .int .i64 s0.f1, .int .i64 s0.f2] 108))
      have HL5 := Aside0.mk (HL.out.avoid (.cells #[.int .i64 s0.f0, .int .i64 s0.f1, .int .i64 s0.f2] 108))
      have HB5 := Aside0.mk hb5
      clear hb5
      go_wp2_with (go_at_call 79; refine (add_calls (fun k => ok k ∧ k ≠ wr.heap.size) n₀ g q s0.f0 s0.f1 _ _ (fun k hk => ⟨HK2.out k (by have := HS.out; simp at hk; omega), by simp at hk; omega⟩) HL5.out (by have := HQ.out; omega)).mono ?_; rintro e w8 ⟨rfl, hl8, hb8, hk8⟩; have HL8 := Aside0.mk hl8; have HB8 := Aside0.mk hb8; have HK8 := Aside0.mk hk8; have z2 : w8.cell? ⟨wr.heap.size, 2, none⟩ = some (.int .i64 s0.f2) := (blk_cell (hk8 _ _ HG5.out (by have := HL.out.lt; omega) (.inr (fun h => h.2 rfl))) 2).trans rfl; clear hl8 hb8 hk8)
      all_goals
        go_roundg k1
        case measure => omega
        case rel =>
          refine ⟨i + 1, wrap64 (a + s0.f2), _, rfl, ?_, ⟨by have := HK.out; omega⟩, ⟨HL8.out.weaken HL.out.2.1⟩, ⟨?_⟩, ⟨?_⟩, ⟨?_⟩, ⟨?_⟩, ⟨?_⟩, ⟨?_⟩⟩
          · first | rfl | (congr 1)
          · rw [← HA.out, List.drop_eq_getElem_cons hi]
            have e : xs[i] = s0 := by rw [← HS0.out, List.getD_eq_getElem?_getD, List.getElem?_eq_getElem hi]; rfl
            rw [e]
            conv => rhs; unfold partGo
            refine congrArg (fun z => partGo (xs.drop (i + 1)) (addS q s0.f0 s0.f1 z) (wrap64 (a + s0.f2)) a2 a3) ?_
            clear HK2 HL0 HB0 HB00 HNB HBG HC HAD HK HL HA HQ HB HBB HT HS HS0 HG5 HL5 HB5 HL8 HB8 HK8
            unfold partN
            repeat' split
            all_goals first | omega | (unfold wrap64 at *; omega)
          · have h1 := HQ.out
            refine Nat.le_trans (Nat.add_le_add_right (addS_len q s0.f0 s0.f1 _) _) ?_
            omega
          · exact HB.out.trans ((HB5.out.mono (by have := HL.out.1; have := HL.out.lt; omega)).trans HB8.out)
          · exact HK8.out b _ ((Below.heap_alloc _ _ b (blk_lt HBB.out)).trans HBB.out) HBG.out (.inr (fun h => HNB.out h.1))
          · exact HT.out.trans (fun k o hk hkg hno => HK8.out k o ((Below.heap_alloc _ _ k (blk_lt hk)).trans hk) hkg (hno.imp id (fun h h' => h h'.1)))
          · have h1 := HS.out
            have h2 := HB5.out.size
            have h3 := HB8.out.size
            omega
theorem sp_cells {W : World} {b : Nat} {f t s m : Int} (h : W.heap[b]? = some (.cells #[.int .i64 f, .int .i64 t, .int .i64 s, .int .i64 m] 50 (0, 0))) :
    W.cell? ⟨b, 0, none⟩ = some (.int .i64 f) ∧ W.cell? ⟨b, 1, none⟩ = some (.int .i64 t) ∧ W.cell? ⟨b, 2, none⟩ = some (.int .i64 s) ∧ W.cell? ⟨b, 3, none⟩ = some (.int .i64 m) :=
  ⟨(blk_cell h 0).trans rfl, (blk_cell h 1).trans rfl, (blk_cell h 2).trans rfl, (blk_cell h 3).trans rfl⟩
def putL (l : List S50) (n f t s m : Int) : List S108 := partGo (looksL l n) (addS (partGo (looksL l n) [] 0 0 f) s m (wrap64 (t - f))) 0 t n
theorem putL_len (l : List S50) (n f t s m : Int) : (putL l n f t s m).length ≤ 4 * l.length + 3 := by
  have h1 := looksL_len l n
  have h2 := partGo_len (looksL l n) [] 0 0 f
  have h3 := addS_len (partGo (looksL l n) [] 0 0 f) s m (wrap64 (t - f))
  have h4 := partGo_len (looksL l n) (addS (partGo (looksL l n) [] 0 0 f) s m (wrap64 (t - f))) 0 t n
  simp at h2
  unfold putL
  omega
def putR (l : List S50) (n f t s m : Int) : List S50 × Bool := if 12 < (spansGo (putL l n f t s m) 0).length then ([], false) else (spansGo (putL l n f t s m) 0, true)
def impl_SpansPut.f (k : Nat) (l0 : List S50) (a1 : Int) (a2_0 : Int) (a2_1 : Int) (a2_2 : Int) (a2_3 : Int) : Option (List S50 × Bool) :=
  (impl_SpansOk.f k l0 a1).bind fun t => if t = true then (impl_spanOk.f a2_0 a2_1 a2_2 a2_3 a1).bind fun u => if u = true then (if l0.length ≤ 100 ∧ 0 < (looksL l0 a1).length then some (putR l0 a1 a2_0 a2_1 a2_2 a2_3) else none) else some ([], false) else some ([], false)
theorem impl_SpansPut.mono : ∀ a0 a1 a2 a3 a4 a5 k, LeO (impl_SpansPut.f k a0 a1 a2 a3 a4 a5) (impl_SpansPut.f (k + 1) a0 a1 a2 a3 a4 a5) := by
  intro a0 a1 a2 a3 a4 a5 k
  unfold impl_SpansPut.f
  repeat' first
      | (with_reducible exact impl_SpansOk.mono _ _ _)
      | (with_reducible exact LeO.refl _)
      | (with_reducible refine LeO.ite ?_ ?_)
      | (with_reducible refine LeO.bind ?_ (fun _ => ?_))
set_option maxHeartbeats 4000000 in
set_option maxRecDepth 100000 in
theorem impl_SpansPut.calls (k : Nat) (A0 : Option Addr) (c0 : Nat) (l0 : List S50) (a1 : Int) (a2_0 : Int) (a2_1 : Int) (a2_2 : Int) (a2_3 : Int) (r1 : List S50) (r2 : Bool) (w : World) (hr0 : Kd.C k50 w A0 l0.length l0) (hc0 : l0.length ≤ c0) (h : impl_SpansPut.f k l0 a1 a2_0 a2_1 a2_2 a2_3 = some (r1, r2)) :
    Calls Try.prog 40 #[.slice A0 l0.length c0, .int .i64 a1, .agg #[.int .i64 a2_0, .int .i64 a2_1, .int .i64 a2_2, .int .i64 a2_3]] w fun e w' => ∃ v0_ : Value, e = .returned (.tuple #[v0_, .bool r2]) ∧ Kd.R k50 50 w' w.heap.size (fun _ => True) v0_ r1 ∧ Below w.heap.size w w' := by
  have hu50 := Try.underlying50
  have hu78 := Try.underlying78
  have hu85 := Try.underlying85
  unfold impl_SpansPut.f at h
  obtain ⟨t, ht, h'⟩ := Option.bind_eq_some_iff.mp h
  clear h
  have h := h'
  clear h'
  have hbw : Below w.heap.size w (w.alloc (.cells #[.int .i64 a2_0, .int .i64 a2_1, .int .i64 a2_2, .int .i64 a2_3] 50)) := (Below.refl _ _).alloc (Nat.le_refl _) _
  have hgs := blk_new w (.cells #[.int .i64 a2_0, .int .i64 a2_1, .int .i64 a2_2, .int .i64 a2_3] 50)
  have HBW := Aside0.mk hbw
  have HGS := Aside0.mk hgs
  have HR0 := Aside0.mk hr0
  have HC0 := Aside0.mk hc0
  have HOK := Aside0.mk (fun W (hb : Below w.heap.size w W) => impl_SpansOk.calls k A0 c0 l0 a1 t W (Kd.C_below hr0 hb) hc0 ht)
  clear hr0 hc0 ht hbw hgs
  cases t with
  | false =>
    cases Option.some.inj h
    clear h
    go_enter Try.func40, Try.ntmps40
    go_wp2_with (go_at_call 35; refine (HOK.out _ HBW.out).mono ?_; rintro e w1 ⟨rfl, hb1⟩; have HB1 := Aside0.mk (below_step HBW.out hb1); clear hb1)
    go_ret2
    exact ⟨_, rfl, Kd.R_nil _ _ _ _ _, HB1.out⟩
  | true =>
    rw [if_pos rfl] at h
    obtain ⟨u, hu, h'⟩ := Option.bind_eq_some_iff.mp h
    clear h
    have h := h'
    clear h'
    have HSP := Aside0.mk (fun W => impl_spanOk.calls a2_0 a2_1 a2_2 a2_3 a1 u W hu)
    clear hu
    cases u with
    | false =>
      cases Option.some.inj h
      clear h
      go_enter Try.func40, Try.ntmps40
      go_wp2_with (first | (go_at_call 35; refine (HOK.out _ HBW.out).mono ?_; rintro e w1 ⟨rfl, hb1⟩; have HB1 := Aside0.mk (below_step HBW.out hb1); have hg1 := (hb1.block w.heap.size (by simp)).trans HGS.out; obtain ⟨s0, s1, s2, s3⟩ := sp_cells hg1; clear hb1 hg1) | (go_at_call 75; refine (HSP.out _).mono ?_; rintro e w2 ⟨rfl, hb2⟩; have HB2 := Aside0.mk (below_step HB1.out hb2); clear hb2))
      go_ret2
      exact ⟨_, rfl, Kd.R_nil _ _ _ _ _, HB2.out⟩
    | true =>
      rw [if_pos rfl] at h
      by_cases hl : l0.length ≤ 100 ∧ 0 < (looksL l0 a1).length
      · rw [if_pos hl] at h
        obtain ⟨hl1, hl2⟩ := hl
        have hn1 := looksL_len l0 a1
        have hn2 := putL_len l0 a1 a2_0 a2_1 a2_2 a2_3
        have hn3 := spansGo_len (putL l0 a1 a2_0 a2_1 a2_2 a2_3) 0
        have hn4 := partGo_len (looksL l0 a1) [] 0 0 a2_0
        have hn5 := addS_len (partGo (looksL l0 a1) [] 0 0 a2_0) a2_2 a2_3 (wrap64 (a2_1 - a2_0))
        simp only [List.length_nil, Nat.zero_add] at hn4
        have H := Aside0.mk (Option.some.inj h)
        clear h
        have HN := Aside0.mk (And.intro hl1 (And.intro hl2 (And.intro hn1 (And.intro hn2 (And.intro hn3 (And.intro hn4 hn5))))))
        clear hl1 hl2 hn1 hn2 hn3 hn4 hn5
        by_cases h12 : 12 < (spansGo (putL l0 a1 a2_0 a2_1 a2_2 a2_3) 0).length
        all_goals
          have HP := Aside0.mk h12
          go_enter Try.func40, Try.ntmps40
          go_wp2_with (first
            | (go_at_call 35; refine (HOK.out _ HBW.out).mono ?_; rintro e w1 ⟨rfl, hb1⟩; have HB1 := Aside0.mk (below_step HBW.out hb1); have HBc := Aside0.mk (hb1.mono (B' := w.heap.size + 1) (by simp)); have hg1 := (hb1.block w.heap.size (by simp)).trans HGS.out; obtain ⟨s0, s1, s2, s3⟩ := sp_cells hg1; have HGc := Aside0.mk hg1; clear hb1 hg1)
            | (go_at_call 75; refine (HSP.out _).mono ?_; rintro e w2 ⟨rfl, hb2⟩; have hsz1 : w.heap.size + 1 ≤ w1.heap.size := (by have := HBc.out.size; simp at this; omega); have HBn := Aside0.mk (HBc.out.trans (hb2.mono (B' := w.heap.size + 1) hsz1)); have HGn := Aside0.mk ((hb2.block w.heap.size (blk_lt HGc.out)).trans HGc.out); have HB2 := Aside0.mk (below_step HB1.out hb2); have HSz := Aside0.mk (Nat.le_trans hsz1 hb2.size); clear HBc HGc s0 s1 s2 s3 hb2 hsz1)
            | (go_at_call 71; refine (looksOf_calls A0 c0 l0 a1 _ (Kd.C_below HR0.out (HB2.out.alloc HB2.out.size _)) HC0.out (by have := HN.out.1; omega)).mono ?_; rintro e w3 ⟨v3, rfl, hr3, hb3⟩; obtain ⟨b, cb, rfl, hbase, hblt, cells, hcells⟩ := Kd.R_form hr3 HN.out.2.1; have HC3 := Aside0.mk (Kd.R_reads' hr3).2.2; have hbg : b ≠ w2.heap.size := (by simp at hbase; omega); have HBG := Aside0.mk hbg; have HCELLS := Aside0.mk hcells; have HRc := Aside0.mk hcells; have hg3 := (hb3.block w2.heap.size (by simp)).trans (blk_new w2 (.cells #[.slice none 0 0] 78)); have HLc : Aside0 (LkAt (fun k => k ≠ w2.heap.size ∧ k ≠ b) (w.heap.size + 1) w3 w2.heap.size []) := ⟨⟨HSz.out, fun k hk => hk.1, none, 0, hg3, Kd.R_nil _ _ _ _ _, fun _ => ⟨rfl, rfl⟩⟩⟩; have HBc := Aside0.mk ((HBn.out.alloc HSz.out _).trans (hb3.mono (B' := w.heap.size + 1) (by have := HSz.out; simp; omega))); have HGc := Aside0.mk ((hb3.block w.heap.size (by have := HSz.out; simp; omega)).trans ((Below.heap_alloc _ _ _ (blk_lt HGn.out)).trans HGn.out)); obtain ⟨s0, s1, s2, s3⟩ := sp_cells HGc.out; clear hr3 hb3 hbase hblt hcells hbg hg3 HBn HGn)
            | (go_at_call 78; refine (part_calls (fun k => k ≠ w2.heap.size ∧ k ≠ b) (w.heap.size + 1) w2.heap.size b _ (looksL l0 a1) _ cells _ _ _ w3 (fun k hk => by have h1 := HLc.out.lt; have h2 := blk_lt HRc.out; omega) HLc.out (by have h := HN.out; obtain ⟨h1, h2, h3, h4, h5, h6, h7⟩ := h; (try simp only [List.length_nil]); omega) HRc.out (fun h => h.2 rfl) HBG.out HCELLS.out HC3.out).mono ?_; rintro e wx ⟨rfl, hlx, hbx, hrx, hkx, hsx⟩; have HBn := Aside0.mk (HBc.out.trans hbx); have HGn := Aside0.mk (hkx _ _ HGc.out (by have := HSz.out; omega) (.inl (by intro cs e; cases e))); have HLn := Aside0.mk hlx; have HRn := Aside0.mk hrx; clear HBc HGc HLc HRc s0 s1 s2 s3 hbx hkx hrx; have HBc := HBn; have HGc := HGn; have HLc := HLn; have HRc := HRn; clear HBn HGn HLn HRn; obtain ⟨s0, s1, s2, s3⟩ := sp_cells HGc.out; obtain ⟨_, _, Ag, cg, hg1, hR, _⟩ := hlx; have hcg : _ = some (Value.slice Ag _ cg) := (blk_cell hg1 0).trans rfl; have HRg := Aside0.mk hR; clear hg1 hR)
            | (go_at_call 79; (try rw [i64_w]); refine (add_calls (fun k => k ≠ w2.heap.size ∧ k ≠ b) (w.heap.size + 1) w2.heap.size _ a2_2 a2_3 _ _ (fun k hk => by have h1 := HLc.out.lt; have h2 := blk_lt HRc.out; omega) HLc.out (by have h := HN.out; obtain ⟨h1, h2, h3, h4, h5, h6, h7⟩ := h; (try simp only [List.length_nil]); omega)).mono ?_; rintro e wx ⟨rfl, hlx, hbx, hkx⟩; have hrx := hkx b _ HRc.out HBG.out (.inr (fun h => h.2 rfl)); have HBn := Aside0.mk (HBc.out.trans hbx); have HGn := Aside0.mk (hkx _ _ HGc.out (by have := HSz.out; omega) (.inl (by intro cs e; cases e))); have HLn := Aside0.mk hlx; have HRn := Aside0.mk hrx; clear HBc HGc HLc HRc s0 s1 s2 s3 hbx hkx hrx; have HBc := HBn; have HGc := HGn; have HLc := HLn; have HRc := HRn; clear HBn HGn HLn HRn; obtain ⟨s0, s1, s2, s3⟩ := sp_cells HGc.out; obtain ⟨_, _, Ag, cg, hg1, hR, _⟩ := hlx; have hcg : _ = some (Value.slice Ag _ cg) := (blk_cell hg1 0).trans rfl; have HRg := Aside0.mk hR; clear hg1 hR)
            | (go_at_call 72; refine (plain_calls cg Ag (putL l0 a1 a2_0 a2_1 a2_2 a2_3) _ (by have h := HN.out; obtain ⟨h1, h2, h3, h4, h5, h6, h7⟩ := h; (try simp only [List.length_nil]); omega) (Kd.R_reads' HRg.out).2.2).mono ?_; rintro e w7 ⟨v7, rfl, hr7, hb7⟩; obtain ⟨A7, c7, e7, hc7, hC7⟩ := Kd.R_reads hr7; subst e7; have HR7 := Aside0.mk hr7; have HB7 := Aside0.mk hb7; clear hr7 hb7 hc7 hC7))
        · have HH := H.out
          unfold putR at HH
          rw [if_pos HP.out] at HH
          cases HH
          go_ret2
          exact ⟨_, rfl, Kd.R_nil _ _ _ _ _, HBW.out.trans ((HBc.out.mono (Nat.le_succ _)).trans (HB7.out.mono (Nat.le_of_lt (blk_lt HGc.out))))⟩
        · have HH := H.out
          unfold putR at HH
          rw [if_neg HP.out] at HH
          cases HH
          go_ret2
          exact ⟨_, rfl, Kd.R_lower HR7.out (Nat.le_of_lt (blk_lt HGc.out)), HBW.out.trans ((HBc.out.mono (Nat.le_succ _)).trans (HB7.out.mono (Nat.le_of_lt (blk_lt HGc.out))))⟩
      · rw [if_neg hl] at h
        exact absurd h (by simp)


end Go.Proofs.Ytkapjhlcmicpnaa.PFnExactSpansPut
