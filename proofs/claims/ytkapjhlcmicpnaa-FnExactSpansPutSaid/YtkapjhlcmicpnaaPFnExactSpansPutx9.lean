-- Written by a program of this session (wip/tools) out of the translation; its shape is that of the kit print.
import Derived.Test.YtkapjhlcmicpnaaPFnExactSpansPutx0
import Derived.Test.YtkapjhlcmicpnaaPFnExactSpansPutx8
namespace Go.Proofs.Ytkapjhlcmicpnaa.PFnExactSpansPut
open Go.RowKit Go.Proofs.YtkapjhlcmicpnaaW.PrintWords Go.Proofs.YtkapjhlcmicpnaaW.PrintLast Go.Proofs.YtkapjhlcmicpnaaW.PrintMore
attribute [local go_sem] max2_int min2_int max_two min_two max_three min_three max_four min_four   -- for this text's walks alone
set_option linter.unusedVariables false
set_option linter.unusedSimpArgs false

structure S108 where
  f0 : Int
  f1 : Int
  f2 : Int
def z108 : S108 := ⟨0, 0, 0⟩
def k108 : Kd S108 := Kd.iso (Kd.pair (Kd.int .i64) (Kd.pair (Kd.int .i64) (Kd.int .i64))) (fun x : S108 => (x.f0, x.f1, x.f2))
theorem k108_open {w : World} {x : S108} {cs : List Value} (h : k108.K w x cs) : cs = [.int .i64 x.f0, .int .i64 x.f1, .int .i64 x.f2] := by
  obtain ⟨_, _, rfl, rfl, ⟨_, _, rfl, rfl, rfl⟩⟩ := h
  exact rfl
theorem k108_openM {w : World} {base : Nat} {ok : Nat → Prop} {x : S108} {cs : List Value} (h : k108.M w base ok x cs) : cs = [.int .i64 x.f0, .int .i64 x.f1, .int .i64 x.f2] := by
  obtain ⟨_, _, rfl, rfl, ⟨_, _, rfl, rfl, rfl⟩⟩ := h
  exact rfl
theorem k108_mkM (w : World) (base : Nat) (ok : Nat → Prop) (x : S108) : k108.M w base ok x [.int .i64 x.f0, .int .i64 x.f1, .int .i64 x.f2] := ⟨[.int .i64 x.f0], [.int .i64 x.f1, .int .i64 x.f2], rfl, rfl, ⟨[.int .i64 x.f1], [.int .i64 x.f2], rfl, rfl, rfl⟩⟩
theorem info108 : (Try.prog.info? 108).map (fun i => (i.zero, i.size, i.bytes)) = some (some (.agg #[(.int .i64 0), (.int .i64 0), (.int .i64 0)]), 3, 24) := by kernel_rfl
/-- what is no row of stretches and no box of them lies as it lay -/
def KeepT (ok : Nat → Prop) (g : Nat) (w w' : World) : Prop := ∀ (k : Nat) (o : Obj), w.heap[k]? = some o → k ≠ g → ((∀ cs, o ≠ .cells cs 108 (0, 0)) ∨ ¬ ok k) → w'.heap[k]? = some o
theorem own_ne {W : World} {n₀ : Nat} {ok : Nat → Prop} {v : Value} {xs : List S108} (h : Kd.R k108 108 W n₀ ok v xs) (hp : 0 < xs.length) {k : Nat} {o : Obj} (hk : W.heap[k]? = some o) (hno : (∀ cs, o ≠ .cells cs 108 (0, 0)) ∨ ¬ ok k) : some k ≠ v.ownBlock := by
  intro he
  rcases hno with hno | hno
  · obtain ⟨g', cap, rfl, _, _, cells, hc⟩ := Kd.R_form h hp
    have e : k = g' := by injection he
    subst e
    rw [hc] at hk
    injection hk with hk
    exact hno cells hk.symm
  · exact hno (h.1 k he.symm)
set_option maxHeartbeats 2000000 in
set_option maxRecDepth 100000 in
theorem add_zero (g c : Nat) (A : Option Addr) (l : List S108) (s m : Int) (w : World) (h1 : w.cell? ⟨g, 0, none⟩ = some (.slice A l.length c)) (hlen : l.length ≤ 1000) :
    Calls Try.prog 79 #[.pointer (some ⟨g, 0, none⟩), .agg #[.int .i64 s, .int .i64 m], .int .i64 0] w fun e w' => e = .returned (.tuple #[]) ∧ Below w.heap.size w w' := by
  have hu78 := Try.underlying78
  have hu85 := Try.underlying85
  go_enter Try.func79, Try.ntmps79
  go_wp2_with ((with_reducible refine gate_dst (N := 4) rfl ?_); refine box_event ?hg (N := 4) ?hd (cs := #[.int .i64 s, .int .i64 m]) (t := 85) ?hr ?_; (case hd => rfl); (case hg => rfl); (case hr => first | (go_simp; done) | (go_simp; rfl)); intro gb hgb w1 hbox hbel; have h2 := pw_cell_below hbel h1; have HB := Aside0.mk hbel; clear hgb hbox hbel)
  go_end0
  exact ⟨rfl, HB.out⟩
set_option maxHeartbeats 2000000 in
set_option maxRecDepth 100000 in
theorem add_nil (ok : Nat → Prop) (n₀ g : Nat) (s m n : Int) (w : World) (hok1 : ∀ k, ok k → k ≠ g) (hok2 : ∀ k, w.heap.size ≤ k → ok k) (hg1 : w.heap[g]? = some (.cells #[.slice none 0 0] 78 (0, 0))) (hn : ¬ n = 0) (h0 : n₀ ≤ g) :
    Calls Try.prog 79 #[.pointer (some ⟨g, 0, none⟩), .agg #[.int .i64 s, .int .i64 m], .int .i64 n] w fun e w' => e = .returned (.tuple #[]) ∧ Below n₀ w w' ∧ ∃ A c, w'.heap[g]? = some (.cells #[.slice A 1 c] 78 (0, 0)) ∧ Kd.R k108 108 w' n₀ ok (.slice A 1 c) [⟨s, m, n⟩] ∧ KeepT ok g w w' := by
  have HO1 := Aside0.mk hok1
  have HO2 := Aside0.mk hok2
  clear hok1 hok2
  have hu78 := Try.underlying78
  have hu85 := Try.underlying85
  have hnb : (n == 0) = false := by simpa using hn
  have h1 : w.cell? ⟨g, 0, none⟩ = some (.slice none 0 0) := (blk_cell hg1 0).trans rfl
  have hlt := blk_lt hg1
  go_enter Try.func79, Try.ntmps79
  go_wp2_with ((with_reducible refine gate_dst (N := 4) rfl ?_); refine box_event ?hg (N := 4) ?hd (cs := #[.int .i64 s, .int .i64 m]) (t := 85) ?hr ?_; (case hd => rfl); (case hg => rfl); (case hr => first | (go_simp; done) | (go_simp; rfl)); intro gb hgb w1 hbox hbel; have h2 := pw_cell_below hbel h1; have HX := Aside0.mk hbox; have HB := Aside0.mk hbel; clear hgb hbox hbel)
  have x0 : w1.cell? ⟨gb, 0, none⟩ = some (.int .i64 s) := (blk_cell HX.out 0).trans rfl
  have x1 : w1.cell? ⟨gb, 1, none⟩ = some (.int .i64 m) := (blk_cell HX.out 1).trans rfl
  have HG := Aside0.mk ((HB.out.block g hlt).trans hg1)
  have HL := HB.out.size
  have HB0 : Aside0 (Below n₀ w w1) := ⟨HB.out.mono (Nat.le_trans h0 (Nat.le_of_lt hlt))⟩
  go_quiet (fail)
  go_wp2
  have HR := Aside0.mk (Kd.R_nil k108 108 w1 n₀ ok)
  have hB0 : n₀ ≤ w1.heap.size := by omega
  have hA : ∀ (k : Nat) (o : Obj), ((w1.drewN k).alloc o).cell? ⟨g, 0, none⟩ = some (.slice none 0 0) := fun k o => (blk_cell (blk_alloc (blk_drewN HG.out k) o) 0).trans rfl
  go_region_law (refine Kd.R_append_step k108 (w0 := w) n₀ (by rfl) (.tmp 15) (.tmp 19) 78 108 (.agg #[(.int .i64 0), (.int .i64 0), (.int .i64 0)]) 24 rfl Try.underlying78 info108 rfl (by decide) (by omega) (.slice none 0 0) [] (⟨s, m, n⟩ : S108) [.int .i64 s, .int .i64 m, .int .i64 n] ok (fun _ => False) rfl rfl ?aP (fun _ hk => hk.elim) ?aF ?aO ?aB ?aS ?aL ?_; (case aP => exact k108_mkM _ _ _ (⟨s, m, n⟩ : S108)); (case aF => exact fun k hk => HO2.out k (by simp at hk; omega)); (case aO => exact (by (with_reducible repeat (first | apply Kd.R_alloc | apply Kd.R_drewN | apply Kd.R_drew)); exact HR.out)); (case aB => exact (by (with_reducible repeat (first | apply below_alloc | apply pw_below_drewN | apply below_drew)); exact HB0.out)); (case aS => exact (by simp; omega)); (case aL => exact (by simp)); intro v1 w2 ho hb hg2 hat; obtain ⟨ad, c1, rfl⟩ := Kd.R_slice1 ho (by simp); have h3 : w2.heap[g]? = some (.cells #[.slice none 0 0] 78 (0, 0)) := (hg2.block g (by simp; omega) (by simp [Value.ownBlock])).trans (by (with_reducible repeat (first | refine blk_drewN ?_ _ | refine blk_drew ?_ | refine blk_alloc ?_ _)); exact HG.out); have h4 : w2.cell? ⟨g, 0, none⟩ = some (.slice none 0 0) := (blk_cell h3 0).trans rfl; have h5 : w2.frozen? ⟨g, 0, none⟩ = false := by simp [World.frozen?, h3])
  all_goals (go_end0; exact ⟨rfl, hb.setCell (p := ⟨g, 0, none⟩) h0 _, _, _, blk_put h3 0 _ rfl, Kd.R_far ho HO1.out _, fun k o hk hkg hno => (Below.heap_setCell _ _ _ k hkg).trans ((hg2.block k (Nat.lt_of_lt_of_le (blk_lt hk) HL) (by simp [Value.ownBlock])).trans ((HB.out.block k (blk_lt hk)).trans hk))⟩)
theorem at_T108 {w : World} {A : Option Addr} {n : Nat} {xs : List S108} (h : Kd.C k108 w A n xs) (i : Nat) (h1 : i < n) : ∃ ad, A = some ad ∧ w.cell? (ad.add (i * 3)) = some (.int .i64 (xs.getD i z108).f0) ∧ w.cell? ⟨(ad.add (i * 3)).block, (ad.add (i * 3)).off + 1, none⟩ = some (.int .i64 (xs.getD i z108).f1) ∧ w.cell? ⟨(ad.add (i * 3)).block, (ad.add (i * 3)).off + 2, none⟩ = some (.int .i64 (xs.getD i z108).f2) := by
  obtain ⟨ad, c, e, _, hK, hc0⟩ := Kd.C_get h z108 (i : Int) (by omega) (by omega)
  have hc : ∀ j u, c[j]? = some u → w.cell? (ad.add (i * 3 + j)) = some u := hc0
  have hK' : k108.K w (xs.getD i z108) c := hK
  obtain rfl := k108_open hK'
  exact ⟨ad, e, hc 0 _ rfl, by rw [← add_field _ _ 1 (by omega)]; exact hc 1 _ rfl, by rw [← add_field _ _ 2 (by omega)]; exact hc 2 _ rfl⟩
theorem eq_T85 (d : Nat) (x0 x1 y0 y1 : Int) (w : World) :
    (Op.equalIn (d + 2) 85 (.agg #[.int .i64 x0, .int .i64 x1]) (.agg #[.int .i64 y0, .int .i64 y1])).run Try.prog w = .ok (x0 == y0 && (x1 == y1)) w := by
  refine eqA_of Try.underlying85 (by kernel_rfl) ?_
  refine eqf_cons (by rfl) (by go_simp; rfl) (by go_simp; rfl) (by go_simp) ?_
  exact eqf_last (by rfl) (by go_simp; rfl) (by go_simp; rfl) (by go_simp)
set_option maxHeartbeats 4000000 in
set_option maxRecDepth 100000 in
theorem add_new (ok : Nat → Prop) (n₀ g c : Nat) (A : Option Addr) (q : List S108) (x : S108) (s m n : Int) (w : World) (hok1 : ∀ k, ok k → k ≠ g) (hok2 : ∀ k, w.heap.size ≤ k → ok k) (hg1 : w.heap[g]? = some (.cells #[.slice A (q.length + 1) c] 78 (0, 0))) (hR : Kd.R k108 108 w n₀ ok (.slice A (q.length + 1) c) (q ++ [x]))
    (hq : q.length ≤ 1000) (hx : (x.f0 == s && (x.f1 == m)) = false) (hn : ¬ n = 0) (h0 : n₀ ≤ g) :
    Calls Try.prog 79 #[.pointer (some ⟨g, 0, none⟩), .agg #[.int .i64 s, .int .i64 m], .int .i64 n] w fun e w' => e = .returned (.tuple #[]) ∧ Below n₀ w w' ∧ ∃ A c, w'.heap[g]? = some (.cells #[.slice A (q.length + 1 + 1) c] 78 (0, 0)) ∧ Kd.R k108 108 w' n₀ ok (.slice A (q.length + 1 + 1) c) (q ++ [x] ++ [⟨s, m, n⟩]) ∧ KeepT ok g w w' := by
  have HO1 := Aside0.mk hok1
  have HO2 := Aside0.mk hok2
  clear hok1 hok2
  have hu78 := Try.underlying78
  have hu85 := Try.underlying85
  have heq := eq_T85
  have hnb : (n == 0) = false := by simpa using hn
  have h1 : w.cell? ⟨g, 0, none⟩ = some (.slice A (q.length + 1) c) := (blk_cell hg1 0).trans rfl
  have hlt := blk_lt hg1
  have hw : wrap64 (((q.length + 1 : Nat) : Int) - 1) = (q.length : Int) := by unfold wrap64; omega
  have hd : decide ((q.length : Int) ≥ 0) = true := decide_eq_true (by omega)
  have hR0 := Aside0.mk hR
  clear hR
  go_enter Try.func79, Try.ntmps79
  go_wp2_with ((with_reducible refine gate_dst (N := 4) rfl ?_); refine box_event ?hg (N := 4) ?hd (cs := #[.int .i64 s, .int .i64 m]) (t := 85) ?hr ?_; (case hd => rfl); (case hg => rfl); (case hr => first | (go_simp; done) | (go_simp; rfl)); intro gb hgb w1 hbox hbel; have h2 := pw_cell_below hbel h1; have HX := Aside0.mk hbox; have HB := Aside0.mk hbel; clear hgb hbox hbel)
  have hdec : decide ((q.length : Int) ≥ 0) = true := decide_eq_true (by omega)
  have HR := Aside0.mk (Kd.R_below hR0.out HB.out)
  have HG := Aside0.mk ((HB.out.block g hlt).trans hg1)
  have HL := HB.out.size
  have HB0 : Aside0 (Below n₀ w w1) := ⟨HB.out.mono (Nat.le_trans h0 (Nat.le_of_lt hlt))⟩
  have hB0 : n₀ ≤ w1.heap.size := by omega
  obtain ⟨ad, e, a0, a1, a2⟩ := at_T108 (Kd.R_reads' HR.out).2.2 q.length (by simp)
  subst e
  have hgd : (q ++ [x]).getD q.length z108 = x := by simp [List.getD_eq_getElem?_getD]
  rw [hgd] at a0 a1 a2
  have x0 : w1.cell? ⟨gb, 0, none⟩ = some (.int .i64 s) := (blk_cell HX.out 0).trans rfl
  have x1 : w1.cell? ⟨gb, 1, none⟩ = some (.int .i64 m) := (blk_cell HX.out 1).trans rfl
  clear hR0 h1 hg1
  go_quiet (fail)
  go_wp2
  have hA : ∀ (k : Nat) (o : Obj), ((w1.drewN k).alloc o).cell? ⟨g, 0, none⟩ = some (.slice (some ad) (q.length + 1) c) := fun k o => (blk_cell (blk_alloc (blk_drewN HG.out k) o) 0).trans rfl
  have hne : some g ≠ (Value.slice (some ad) (q.length + 1) c).ownBlock := fun he => HO1.out g (HR.out.1 g he.symm) rfl
  go_region_law (refine Kd.R_append_step k108 (w0 := w) n₀ (by rfl) (.tmp 15) (.tmp 19) 78 108 (.agg #[(.int .i64 0), (.int .i64 0), (.int .i64 0)]) 24 rfl Try.underlying78 info108 rfl (by decide) (by omega) (.slice (some ad) (q.length + 1) c) (q ++ [x]) (⟨s, m, n⟩ : S108) [.int .i64 s, .int .i64 m, .int .i64 n] ok (fun _ => False) rfl rfl ?aP (fun _ hk => hk.elim) ?aF ?aO ?aB ?aS ?aL ?_; (case aP => exact k108_mkM _ _ _ (⟨s, m, n⟩ : S108)); (case aF => exact fun k hk => HO2.out k (by simp at hk; omega)); (case aO => exact (by (with_reducible repeat (first | apply Kd.R_alloc | apply Kd.R_drewN | apply Kd.R_drew)); exact HR.out)); (case aB => exact (by (with_reducible repeat (first | apply below_alloc | apply pw_below_drewN | apply below_drew)); exact HB0.out)); (case aS => exact (by simp <;> omega)); (case aL => exact (by simp <;> omega)); intro v1 w2 ho hb hg2 hat; obtain ⟨ad1, c1, rfl⟩ := Kd.R_slice1 ho (by simp); have h3 : w2.heap[g]? = some (.cells #[.slice (some ad) (q.length + 1) c] 78 (0, 0)) := (hg2.block g (by simp <;> omega) hne).trans (by (with_reducible repeat (first | refine blk_drewN ?_ _ | refine blk_drew ?_ | refine blk_alloc ?_ _)); exact HG.out); have h4 : w2.cell? ⟨g, 0, none⟩ = some (.slice (some ad) (q.length + 1) c) := (blk_cell h3 0).trans rfl; have h5 : w2.frozen? ⟨g, 0, none⟩ = false := (by simp [World.frozen?, h3]); have ho2 : Kd.R k108 108 w2 n₀ ok (.slice (some ad1) (q.length + 1 + 1) c1) (q ++ [x] ++ [⟨s, m, n⟩]) := by simpa using ho)
  all_goals (go_end0; exact ⟨rfl, hb.setCell (p := ⟨g, 0, none⟩) h0 _, _, _, blk_put h3 0 _ rfl, Kd.R_far ho2 HO1.out _, fun k o hk hkg hno => (Below.heap_setCell _ _ _ k hkg).trans ((hg2.block k (Nat.lt_of_lt_of_le (blk_lt hk) HL) (own_ne HR.out (by simp) ((HB.out.block k (blk_lt hk)).trans hk) hno)).trans ((HB.out.block k (blk_lt hk)).trans hk))⟩)
set_option maxHeartbeats 4000000 in
set_option maxRecDepth 100000 in
theorem add_same (ok : Nat → Prop) (n₀ g c : Nat) (A : Option Addr) (q : List S108) (x : S108) (s m n : Int) (w : World) (hok1 : ∀ k, ok k → k ≠ g) (hok2 : ∀ k, w.heap.size ≤ k → ok k) (hg1 : w.heap[g]? = some (.cells #[.slice A (q.length + 1) c] 78 (0, 0))) (hR : Kd.R k108 108 w n₀ ok (.slice A (q.length + 1) c) (q ++ [x]))
    (hq : q.length ≤ 1000) (hx : (x.f0 == s && (x.f1 == m)) = true) (hn : ¬ n = 0) (h0 : n₀ ≤ g) :
    Calls Try.prog 79 #[.pointer (some ⟨g, 0, none⟩), .agg #[.int .i64 s, .int .i64 m], .int .i64 n] w fun e w' => e = .returned (.tuple #[]) ∧ Below n₀ w w' ∧ ∃ A c, w'.heap[g]? = some (.cells #[.slice A (q.length + 1) c] 78 (0, 0)) ∧ Kd.R k108 108 w' n₀ ok (.slice A (q.length + 1) c) (q ++ [⟨x.f0, x.f1, wrap64 (x.f2 + n)⟩]) ∧ KeepT ok g w w' := by
  have HO1 := Aside0.mk hok1
  have HO2 := Aside0.mk hok2
  clear hok1 hok2
  have hu78 := Try.underlying78
  have hu85 := Try.underlying85
  have heq := eq_T85
  have hnb : (n == 0) = false := by simpa using hn
  have h1 : w.cell? ⟨g, 0, none⟩ = some (.slice A (q.length + 1) c) := (blk_cell hg1 0).trans rfl
  have hlt := blk_lt hg1
  have hw : wrap64 (((q.length + 1 : Nat) : Int) - 1) = (q.length : Int) := by unfold wrap64; omega
  have hd : decide ((q.length : Int) ≥ 0) = true := decide_eq_true (by omega)
  have hR0 := Aside0.mk hR
  clear hR
  go_enter Try.func79, Try.ntmps79
  go_wp2_with ((with_reducible refine gate_dst (N := 4) rfl ?_); refine box_event ?hg (N := 4) ?hd (cs := #[.int .i64 s, .int .i64 m]) (t := 85) ?hr ?_; (case hd => rfl); (case hg => rfl); (case hr => first | (go_simp; done) | (go_simp; rfl)); intro gb hgb w1 hbox hbel; have h2 := pw_cell_below hbel h1; have HX := Aside0.mk hbox; have HB := Aside0.mk hbel; clear hgb hbox hbel)
  have HR := Aside0.mk (Kd.R_below hR0.out HB.out)
  have HG := Aside0.mk ((HB.out.block g hlt).trans hg1)
  have HL := HB.out.size
  have HB0 : Aside0 (Below n₀ w w1) := ⟨HB.out.mono (Nat.le_trans h0 (Nat.le_of_lt hlt))⟩
  have hB0 : n₀ ≤ w1.heap.size := by omega
  obtain ⟨ad, e2, a0, a1, a2⟩ := at_T108 (Kd.R_reads' HR.out).2.2 q.length (by simp)
  subst e2
  have HF := Aside0.mk (Kd.R_form HR.out (by simp))
  have hadd : ∃ b, ad.add (q.length * 3) = ⟨b, q.length * 3, none⟩ ∧ ad = ⟨b, 0, none⟩ ∧ ∃ cells, w1.heap[b]? = some (.cells cells 108 (0, 0)) := by
    obtain ⟨b, c', e, hbn, hbl, hcells⟩ := HF.out
    injection e with e
    injection e with e
    refine ⟨b, ?_, e, hcells⟩
    rw [e]
    unfold Addr.add
    by_cases h0 : q.length * 3 = 0 <;> simp [h0]
  have hfr : w1.frozen? ⟨(ad.add (q.length * 3)).block, (ad.add (q.length * 3)).off + 2, none⟩ = false := by
    obtain ⟨b, e, _, cells, hb⟩ := hadd
    rw [e]
    simp [World.frozen?, hb]
  have hgd : (q ++ [x]).getD q.length z108 = x := by simp [List.getD_eq_getElem?_getD]
  rw [hgd] at a0 a1 a2
  have x0 : w1.cell? ⟨gb, 0, none⟩ = some (.int .i64 s) := (blk_cell HX.out 0).trans rfl
  have x1 : w1.cell? ⟨gb, 1, none⟩ = some (.int .i64 m) := (blk_cell HX.out 1).trans rfl
  have HADD := Aside0.mk hadd
  clear hR0 h1 hg1 hadd
  go_quiet (fail)
  go_wp2_with (fail)
  go_end0
  obtain ⟨b, e, e0, cells, hb⟩ := HADD.out
  rw [e]
  have hbg : b ≠ g := HO1.out b (HR.out.1 b (by rw [e0]; rfl))
  have HR2 : Kd.R k108 108 (w1.drewN nq) n₀ ok (.slice (some ⟨b, 0, none⟩) (q.length + 1) c) (q ++ [x]) := by rw [← e0]; exact Kd.R_drewN HR.out nq
  have hbn : n₀ ≤ b := Kd.R_base HR2 b rfl
  obtain ⟨k1, k2⟩ := Kd.R_seg HR2 (q.length : Int) (by omega) (by omega) (c := [.int .i64 x.f0, .int .i64 x.f1, .int .i64 x.f2]) (seg := [.int .i64 (wrap64 (x.f2 + n))]) (j := 2) (x' := ⟨x.f0, x.f1, wrap64 (x.f2 + n)⟩) (okp := fun _ => False) rfl (by
    intro j u hj
    rw [e] at a0 a1 a2
    rw [Int.toNat_natCast]
    match j, hj with
    | 0, hj =>
      obtain rfl : _ = u := by simpa using hj
      exact a0
    | 1, hj =>
      obtain rfl : _ = u := by simpa using hj
      exact a1
    | 2, hj =>
      obtain rfl : _ = u := by simpa using hj
      exact a2
    | j + 3, hj => simp at hj) (show 2 + 1 ≤ 3 by decide) (k108_mkM _ _ _ ⟨x.f0, x.f1, wrap64 (x.f2 + n)⟩) (fun _ hk => hk.elim)
  rw [Int.toNat_natCast] at k1
  have hset : (q ++ [x]).set q.length (⟨x.f0, x.f1, wrap64 (x.f2 + n)⟩ : S108) = q ++ [⟨x.f0, x.f1, wrap64 (x.f2 + n)⟩] := by simp
  rw [hset] at k1
  refine ⟨rfl, (pw_below_drewN HB0.out nq).setCell (p := ⟨b, q.length * 3 + 2, none⟩) hbn _, some ⟨b, 0, none⟩, c, ?_, k1, fun k o hk hkg hno => (Below.heap_setCell _ _ _ k (fun he => by
    have hkb : k = b := he
    subst hkb
    exact own_ne HR.out (by simp) ((HB.out.block k (blk_lt hk)).trans hk) hno (by rw [e0]; rfl))).trans ((HB.out.block k (blk_lt hk)).trans hk)⟩
  rw [e0] at HG
  exact (k2.block g (by simp; omega) (by simp; exact fun h => hbg h.symm)).trans (blk_drewN HG.out nq)
/-- what lies at g: the stretches -/
def LkAt (ok : Nat → Prop) (n₀ : Nat) (W : World) (g : Nat) (l : List S108) : Prop := n₀ ≤ g ∧ (∀ k, ok k → k ≠ g) ∧ ∃ A c, W.heap[g]? = some (.cells #[.slice A l.length c] 78 (0, 0)) ∧ Kd.R k108 108 W n₀ ok (.slice A l.length c) l ∧ (l = [] → A = none ∧ c = 0)
def addS (l : List S108) (s m n : Int) : List S108 :=
  if n = 0 then l else match l.getLast? with
    | none => [⟨s, m, n⟩]
    | some x => if (x.f0 == s && (x.f1 == m)) = true then l.dropLast ++ [⟨x.f0, x.f1, wrap64 (x.f2 + n)⟩] else l ++ [⟨s, m, n⟩]
theorem LkAt.below {ok : Nat → Prop} {n₀ g : Nat} {W W' : World} {l : List S108} (h : LkAt ok n₀ W g l) (hb : Below W.heap.size W W') : LkAt ok n₀ W' g l := by
  obtain ⟨h0, hk1, A, c, h1, h2, h3⟩ := h
  exact ⟨h0, hk1, A, c, (hb.block g (blk_lt h1)).trans h1, Kd.R_below h2 hb, h3⟩
theorem LkAt.lt {ok : Nat → Prop} {n₀ g : Nat} {W : World} {l : List S108} (h : LkAt ok n₀ W g l) : g < W.heap.size := by
  obtain ⟨h0, hk1, A, c, h1, h2, h3⟩ := h
  exact blk_lt h1
theorem add_calls (ok : Nat → Prop) (n₀ g : Nat) (l : List S108) (s m n : Int) (w : World) (hok2 : ∀ k, w.heap.size ≤ k → ok k) (h : LkAt ok n₀ w g l) (hl : l.length ≤ 1000) :
    Calls Try.prog 79 #[.pointer (some ⟨g, 0, none⟩), .agg #[.int .i64 s, .int .i64 m], .int .i64 n] w fun e w' => e = .returned (.tuple #[]) ∧ LkAt ok n₀ w' g (addS l s m n) ∧ Below n₀ w w' ∧ KeepT ok g w w' := by
  have hlt := h.lt
  obtain ⟨h0, hk1, A, c, h1, h2, h3⟩ := id h
  unfold addS
  by_cases hn : n = 0
  · subst hn
    rw [if_pos rfl]
    refine (add_zero g c A l s m w ((blk_cell h1 0).trans rfl) hl).mono ?_
    rintro e w' ⟨rfl, hb⟩
    exact ⟨rfl, h.below hb, hb.mono (by omega), fun k o hk _ _ => (hb.block k (blk_lt hk)).trans hk⟩
  · rw [if_neg hn]
    rcases List.eq_nil_or_concat l with rfl | ⟨q, x, hq⟩
    · obtain ⟨rfl, rfl⟩ := h3 rfl
      refine (add_nil ok n₀ g s m n w hk1 hok2 h1 hn h0).mono ?_
      rintro e w' ⟨rfl, hb, A', c', k1, k2, k3⟩
      exact ⟨rfl, ⟨h0, hk1, A', c', k1, k2, fun h => by simp at h⟩, hb, k3⟩
    · have hq' : l = q ++ [x] := by simpa using hq
      subst hq'
      have e1 : (q ++ [x]).length = q.length + 1 := by simp
      have e2 : (q ++ [x]).getLast? = some x := by simp
      have e3 : (q ++ [x]).dropLast = q := by simp
      rw [e1] at h1 h2 hl
      simp only [e2, e3]
      by_cases hx : (x.f0 == s && (x.f1 == m)) = true
      · rw [if_pos hx]
        refine (add_same ok n₀ g c A q x s m n w hk1 hok2 h1 h2 (by omega) hx hn h0).mono ?_
        rintro e w' ⟨rfl, hb, A', c', k1, k2, k3⟩
        refine ⟨rfl, ⟨h0, hk1, A', c', ?_, ?_, fun h => by simp at h⟩, hb, k3⟩
        · simpa using k1
        · simpa using k2
      · rw [if_neg hx]
        refine (add_new ok n₀ g c A q x s m n w hk1 hok2 h1 h2 (by omega) (by simpa using hx) hn h0).mono ?_
        rintro e w' ⟨rfl, hb, A', c', k1, k2, k3⟩
        refine ⟨rfl, ⟨h0, hk1, A', c', ?_, ?_, fun h => by simp at h⟩, hb, k3⟩
        · simpa using k1
        · simpa using k2
def looksGo : List S50 → List S108 → Int → List S108 × Int
  | [], l, at_ => (l, at_)
  | s :: r, l, at_ => looksGo r (addS (addS l 10 0 (wrap64 (s.f0 - at_))) s.f2 s.f3 (wrap64 (s.f1 - s.f0))) s.f1
def looksL (l : List S50) (n : Int) : List S108 := addS (looksGo l [] 0).1 10 0 (wrap64 (n - (looksGo l [] 0).2))
theorem addS_len (l : List S108) (s m n : Int) : (addS l s m n).length ≤ l.length + 1 := by
  unfold addS
  split
  · omega
  · split
    · simp
    · split
      · simp <;> omega
      · simp
theorem looksGo_len : ∀ (r : List S50) (l : List S108) (a : Int), (looksGo r l a).1.length ≤ l.length + 2 * r.length
  | [], l, a => by simp [looksGo]
  | s :: r, l, a => by
    have h1 := looksGo_len r (addS (addS l 10 0 (wrap64 (s.f0 - a))) s.f2 s.f3 (wrap64 (s.f1 - s.f0))) s.f1
    have h2 := addS_len (addS l 10 0 (wrap64 (s.f0 - a))) s.f2 s.f3 (wrap64 (s.f1 - s.f0))
    have h3 := addS_len l 10 0 (wrap64 (s.f0 - a))
    unfold looksGo
    simp only [List.length_cons]
    omega
set_option maxHeartbeats 2000000 in
set_option maxRecDepth 100000 in
theorem looksOf_calls (A0 : Option Addr) (c0 : Nat) (l0 : List S50) (a1 : Int) (w : World) (hr0 : Kd.C k50 w A0 l0.length l0) (hc0 : l0.length ≤ c0) (hlen : l0.length ≤ 300) :
    Calls Try.prog 71 #[.slice A0 l0.length c0, .int .i64 a1] w fun e w' => ∃ v, e = .returned v ∧ Kd.R k108 108 w' w.heap.size (fun _ => True) v (looksL l0 a1) ∧ Below w.heap.size w w' := by
  have hu50 := Try.underlying50
  have hu78 := Try.underlying78
  have hu85 := Try.underlying85
  have HR0 := Aside0.mk hr0
  have HC0 := Aside0.mk hc0
  clear hr0 hc0
  go_enter Try.func71, Try.ntmps71
  go_wp2_with ((with_reducible refine gate_dst (N := 5) rfl ?_); refine box_event ?hg (N := 5) ?hd (cs := #[.slice none 0 0]) (t := 78) ?hr ?_; (case hd => rfl); (case hg => rfl); (case hr => first | (go_simp; done) | (go_simp; rfl)); intro g hg w1 hbox hbel; have HL := Aside0.mk (show LkAt (fun k => k ≠ g) w.heap.size w1 g [] from ⟨by rw [hg]; exact Nat.le_refl _, fun k hk => hk, none, 0, hbox, Kd.R_nil _ _ _ _ _, fun _ => ⟨rfl, rfl⟩⟩); have HB := Aside0.mk hbel; clear hg hbox hbel)
  go_loopg [6, 11] l0.length (fun kq v6 v11 w' => ∃ (i : Nat) (a : Int) (l : List S108), v6 = .int .i64 a ∧ v11 = .int .i64 (i : Int) ∧ Aside0 (kq + i = l0.length) ∧ Aside0 (LkAt (fun k => k ≠ g) w.heap.size w' g l) ∧ Aside0 (looksGo (l0.drop i) l a = looksGo l0 [] 0) ∧ Aside0 (l.length ≤ 2 * i) ∧ Aside0 (Below w.heap.size w w'))
  case atStart => exact ⟨0, 0, [], rfl, rfl, ⟨by omega⟩, HL, ⟨rfl⟩, ⟨by simp⟩, HB⟩
  case round =>
    clear HL HB
    obtain ⟨i, a, l, rfl, rfl, HK, HL, HA, HN, HB⟩ := hrel
    cases gk with
    | zero =>
      have hi : i = l0.length := by have := HK.out; omega
      subst hi
      have hdec : decide ((l0.length : Int) < (l0.length : Int)) = false := by simp
      have HEND : looksGo l0 [] 0 = (l, a) := by
        have := HA.out
        rw [List.drop_length] at this
        exact this.symm
      have HE := Aside0.mk HEND
      clear HEND
      go_wp2_with (first | (go_at_call 105; refine (impl_plainLook.calls 10 0 _ rfl).mono ?_; rintro e w6 ⟨rfl, hb6⟩; have HL6 := Aside0.mk (LkAt.below HL.out hb6); have HB6 := Aside0.mk (below_step HB.out hb6); clear hb6) | (go_at_call 79; (try rw [i64_w]); refine (add_calls (fun k => k ≠ g) w.heap.size g l 10 0 (wrap64 (a1 - a)) _ (fun k hk => by have := HL6.out.lt; omega) HL6.out (by have := HN.out; omega)).mono ?_; rintro e w7 ⟨rfl, hl7, hb7, hk7⟩; obtain ⟨_, _, A, c, hc1, hc2, _⟩ := hl7; have hc3 : w7.cell? ⟨g, 0, none⟩ = some (.slice A (addS l 10 0 (wrap64 (a1 - a))).length c) := (blk_cell hc1 0).trans rfl; have HR7 := Aside0.mk hc2; have HB7 := Aside0.mk (HB6.out.trans hb7); clear hc1 hc2 hb7 hk7))
      go_ret
      refine ⟨_, rfl, ?_, HB7.out⟩
      unfold looksL
      rw [HE.out]
      exact Kd.R_mono HR7.out (fun _ _ => trivial)
    | succ k1 =>
      have hi : i < l0.length := by have := HK.out; omega
      have hdec : decide ((i : Int) < (l0.length : Int)) = true := decide_eq_true (by omega)
      have p1 : (0 : Int) ≤ (i : Int) := by omega
      have p2 : (i : Int) < (l0.length : Int) := by omega
      obtain ⟨ad, e1, h0, h1, h2, h3⟩ := at_T50 (Kd.C_below HR0.out HB.out) (i : Int) p1 p2
      cases e1
      replace p1 := eq_true p1
      replace p2 := eq_true p2
      rw [Int.toNat_natCast] at h0 h1 h2 h3
      generalize hs0 : rd_T50 l0 (i : Int) = s0 at h0 h1 h2 h3
      go_wp2_with ((with_reducible refine gate_dst (N := 8) rfl ?_); refine box_event ?hg (N := 8) ?hd (cs := #[.int .i64 0, .int .i64 0, .int .i64 0, .int .i64 0]) (t := 50) ?hr ?_; (case hd => rfl); (case hg => rfl); (case hr => first | (go_simp; done) | (go_simp; rfl)); intro gs hgs w4 hbox hbel; have HX := Aside0.mk hbox; have HBS := Aside0.mk hbel; have hz0 : w4.cell? ⟨gs, 0, none⟩ = some (.int .i64 0) := (blk_cell HX.out 0).trans rfl; have hz1 : w4.cell? ⟨gs, 1, none⟩ = some (.int .i64 0) := (blk_cell HX.out 1).trans rfl; have hz2 : w4.cell? ⟨gs, 2, none⟩ = some (.int .i64 0) := (blk_cell HX.out 2).trans rfl; have hz3 : w4.cell? ⟨gs, 3, none⟩ = some (.int .i64 0) := (blk_cell HX.out 3).trans rfl; have hf0 := blk_frozen HX.out 0; have hf1 := blk_frozen HX.out 1; have hf2 := blk_frozen HX.out 2; have hf3 := blk_frozen HX.out 3; have HGS := Aside0.mk hgs; clear hbox hbel hgs)
      have HG5 : Aside0 (((((w4.setCell ⟨gs, 0, none⟩ (.int .i64 s0.f0)).setCell ⟨gs, 1, none⟩ (.int .i64 s0.f1)).setCell ⟨gs, 2, none⟩ (.int .i64 s0.f2)).setCell ⟨gs, 3, none⟩ (.int .i64 s0.f3)).heap[gs]? = some (.cells #[.int .i64 s0.f0, .int .i64 s0.f1, .int .i64 s0.f2, .int .i64 s0.f3] 50 (0, 0))) := ⟨blk_put (blk_put (blk_put (blk_put HX.out 0 _ rfl) 1 _ rfl) 2 _ rfl) 3 _ rfl⟩
      have hsz : wr.heap.size ≤ gs := by have := HGS.out; omega
      have HBW := Aside0.mk ((((HBS.out.setCell (p := ⟨gs, 0, none⟩) hsz (.int .i64 s0.f0)).setCell (p := ⟨gs, 1, none⟩) hsz (.int .i64 s0.f1)).setCell (p := ⟨gs, 2, none⟩) hsz (.int .i64 s0.f2)).setCell (p := ⟨gs, 3, none⟩) hsz (.int .i64 s0.f3))
      generalize (((w4.setCell ⟨gs, 0, none⟩ (.int .i64 s0.f0)).setCell ⟨gs, 1, none⟩ (.int .i64 s0.f1)).setCell ⟨gs, 2, none⟩ (.int .i64 s0.f2)).setCell ⟨gs, 3, none⟩ (.int .i64 s0.f3) = w5 at HG5 HBW ⊢
      clear hz0 hz1 hz2 hz3 hf0 hf1 hf2 hf3 h0 h1 h2 h3 HX HBS
      have HL5 := Aside0.mk (HL.out.below HBW.out)
      have HB5 := Aside0.mk (below_step HB.out HBW.out)
      have hgne : gs ≠ g := by have := HL.out.lt; omega
      have x0 : w5.cell? ⟨gs, 0, none⟩ = some (.int .i64 s0.f0) := (blk_cell HG5.out 0).trans rfl
      clear HL HB HBW
      go_region_with (first | (go_at_call 105; refine (impl_plainLook.calls 10 0 _ rfl).mono ?_; rintro e w6 ⟨rfl, hb6⟩; have x0' := pw_cell_below hb6 (show w5.drew.cell? ⟨gs, 0, none⟩ = some (.int .i64 s0.f0) from x0); have HL6 := Aside0.mk (LkAt.below (LkAt.below HL5.out (below_drew (Below.refl _ _))) hb6); have HB6 := Aside0.mk (below_step (below_drew HB5.out) hb6); have HG6 := Aside0.mk ((hb6.block gs (blk_lt HG5.out)).trans HG5.out); clear hb6) | (go_at_call 79; rw [i64_w]; refine (add_calls (fun k => k ≠ g) w.heap.size g l 10 0 (wrap64 (s0.f0 - a)) _ (fun k hk => by have := HL6.out.lt; omega) HL6.out (by have := HN.out; omega)).mono ?_; rintro e w7 ⟨rfl, hl7, hb7, hk7⟩; have HL7 := Aside0.mk hl7; have HB7 := Aside0.mk (HB6.out.trans hb7); have HG7 := Aside0.mk (hk7 gs _ HG6.out hgne (.inl (by intro cs e; cases e))); clear hl7 hb7 hk7))
      all_goals
        have y0 : w7.cell? ⟨gs, 0, none⟩ = some (.int .i64 s0.f0) := (blk_cell HG7.out 0).trans rfl
        have y1 : w7.cell? ⟨gs, 1, none⟩ = some (.int .i64 s0.f1) := (blk_cell HG7.out 1).trans rfl
        have y2 : w7.cell? ⟨gs, 2, none⟩ = some (.int .i64 s0.f2) := (blk_cell HG7.out 2).trans rfl
        have y3 : w7.cell? ⟨gs, 3, none⟩ = some (.int .i64 s0.f3) := (blk_cell HG7.out 3).trans rfl
        go_wp2_with (go_at_call 79; (try rw [i64_w]); refine (add_calls (fun k => k ≠ g) w.heap.size g (addS l 10 0 (wrap64 (s0.f0 - a))) s0.f2 s0.f3 (wrap64 (s0.f1 - s0.f0)) _ (fun k hk => by have := HL7.out.lt; omega) HL7.out (by have := HN.out; have := addS_len l 10 0 (wrap64 (s0.f0 - a)); omega)).mono ?_; rintro e w8 ⟨rfl, hl8, hb8, hk8⟩; have HL8 := Aside0.mk hl8; have HB8 := Aside0.mk (HB7.out.trans hb8); have z1 : w8.cell? ⟨gs, 1, none⟩ = some (.int .i64 s0.f1) := (blk_cell (hk8 gs _ HG7.out hgne (.inl (by intro cs e; cases e))) 1).trans rfl; clear hl8 hb8 hk8)
        go_roundg k1
        case measure => omega
        case rel =>
          refine ⟨i + 1, s0.f1, addS (addS l 10 0 (wrap64 (s0.f0 - a))) s0.f2 s0.f3 (wrap64 (s0.f1 - s0.f0)), rfl, ?_, ⟨by have := HK.out; omega⟩, HL8, ⟨?_⟩, ⟨?_⟩, HB8⟩
          · congr 1
          · rw [← HA.out, List.drop_eq_getElem_cons hi]
            have e : l0[i] = s0 := by rw [← hs0]; unfold rd_T50; rw [Int.toNat_natCast, List.getD_eq_getElem?_getD, List.getElem?_eq_getElem hi]; rfl
            rw [e]
            rfl
          · have q1 := HN.out
            have q2 := addS_len l 10 0 (wrap64 (s0.f0 - a))
            have q3 := addS_len (addS l 10 0 (wrap64 (s0.f0 - a))) s0.f2 s0.f3 (wrap64 (s0.f1 - s0.f0))
            omega
section
open Go.Shelf
attribute [local go_sem] Oper.semAt_some
set_option maxHeartbeats 2000000 in
/-- (looks).spans: the iterator's value: a closure over a box that holds the stretches. -/
theorem spans_in (F : Fence) (n : Nat) (h107 : F.fn 107) (hro : F.round = none) (A : Option Addr) (len cap : Nat) (w : World) :
    CallsIn F n Try.prog 107 #[.slice A len cap] w fun e W' => e = .returned (.func (.func 123) #[] #[.pointer (some ⟨w.heap.size, 0, none⟩)]) ∧ W' = w.alloc (.cells #[.slice A len cap] 78) := by
  refine callsIn_of_wp Try.func107 rfl h107 ?_ hro
  simp only [Try.ntmps107, List.size_toArray, List.length_cons, List.length_nil, Nat.reduceAdd, Nat.reduceSub, Array.replicate_succ, Array.replicate_zero, List.push_toArray, List.append_toArray, List.nil_append, List.cons_append]
  gi_wp2
  go_ret
  exact ⟨rfl, rfl⟩
def spansGo : List S108 → Int → List S50
  | [], _ => []
  | x :: r, a => if (x.f0 == 10 && (x.f1 == 0)) = true then spansGo r (wrap64 (a + x.f2)) else ⟨a, wrap64 (a + x.f2), x.f0, x.f1⟩ :: spansGo r (wrap64 (a + x.f2))
def encS (s : S50) : Value := .agg #[.int .i64 s.f0, .int .i64 s.f1, .int .i64 s.f2, .int .i64 s.f3]
theorem below_grown {W W' : World} (h : Below W.heap.size W W') : W.grownBy W' none := ⟨h.os, h.tape, h.output, h.size, fun k hk _ => h.block k hk⟩
theorem ne_T85 (d : Nat) (x0 x1 y0 y1 : Int) (w : World) :
    (Op.equalIn (d + 2) 85 (.agg #[.int .i64 x0, .int .i64 x1]) (.agg #[.int .i64 y0, .int .i64 y1])).run Try.prog w = .ok (x0 == y0 && (x1 == y1)) w := eq_T85 d x0 x1 y0 y1 w
/-- what a round keeps: what lay below, and the rows of stretches -/
def Kt (W W' : World) : Prop := ∀ (k : Nat) (cs : Array Value), W.heap[k]? = some (.cells cs 108 (0, 0)) → W'.heap[k]? = some (.cells cs 108 (0, 0))
def KpS (n0 : Nat) (W W' : World) : Prop := Below n0 W W' ∧ Kt W W'
/-- how a round ends -/
def YPost (n0 : Nat) (J Jx : List S50 → World → Prop) (pre : List S50) (x : S50) (W : World) (b : Bool) (W' : World) : Prop := (b = true → J (pre ++ [x]) W' ∧ KpS n0 W W') ∧ (b = false → Jx (pre ++ [x]) W')
theorem spansGo_plain (x : S108) (r : List S108) (a : Int) (h : (x.f0 == 10 && (x.f1 == 0)) = true) : spansGo (x :: r) a = spansGo r (wrap64 (a + x.f2)) := by
  conv => lhs; unfold spansGo
  rw [if_pos h]
theorem spansGo_other (x : S108) (r : List S108) (a : Int) (h : (x.f0 == 10 && (x.f1 == 0)) = false) : spansGo (x :: r) a = ⟨a, wrap64 (a + x.f2), x.f0, x.f1⟩ :: spansGo r (wrap64 (a + x.f2)) := by
  conv => lhs; unfold spansGo
  rw [if_neg (by rw [h]; decide)]
set_option maxRecDepth 100000 in
set_option maxHeartbeats 4000000 in
/-- spans's closure: it yields the spans of the stretches, one by one. -/
theorem yields_in (n : Nat) (hn : 1 ≤ n) (l Bs cap : Nat) (A : Option Addr) (xs : List S108) (w0 : World) (J Jx : List S50 → World → Prop) (N : Nat)
    (hY : ∀ pre x W, J pre W → pre.length < N → YieldAt Fence.wide (n - 1) Try.prog l #[encS x] W fun e W' =>
      (e = .returned (.bool true) ∧ J (pre ++ [x]) W' ∧ KpS w0.heap.size W W') ∨ (e = .returned (.bool false) ∧ Jx (pre ++ [x]) W'))
    (hN : (spansGo xs 0).length ≤ N) (hBs : w0.cell? ⟨Bs, 0, none⟩ = some (.slice A xs.length cap)) (hC : Kd.C k108 w0 A xs.length xs)
    (W : World) (hW : Below w0.heap.size w0 W) (hJ : AbidesFrom W.heap.size J) (h0 : J [] W) :
    CallsIn Fence.wide n Try.prog 123 #[.func (.yield l) #[] #[], .pointer (some ⟨Bs, 0, none⟩)] W fun e W' => (∃ v, e = .returned v) ∧
      ((∃ ys, ys = spansGo xs 0 ∧ J ys W') ∨ (∃ pre, True ∧ Jx pre W')) := by
  have hu78 := Try.underlying78
  have hu85 := Try.underlying85
  have hB0 := pw_cell_below hW hBs
  have hbig : xs.length ≤ 9223372036854775807 := Kd.C_max hC
  have HC := Aside0.mk hC
  have HW := Aside0.mk hW
  have HJ := Aside0.mk hJ
  have hY2 : ∀ pre x W, J pre W → pre.length < N → YieldAt Fence.wide (n - 1) Try.prog l #[encS x] W fun e W' => ∃ b : Bool, e = .returned (.bool b) ∧ YPost w0.heap.size J Jx pre x W b W' := by
    intro pre x W h1 h2
    refine (hY pre x W h1 h2).mono ?_
    rintro e W' (⟨rfl, h3, h4⟩ | ⟨rfl, h3⟩)
    · exact ⟨true, rfl, (fun _ => ⟨h3, h4⟩), (fun h => by cases h)⟩
    · exact ⟨false, rfl, (fun h => by cases h), (fun _ => h3)⟩
  have HY := Aside0.mk hY2
  clear hY2
  clear hC hW hJ hY hBs
  refine callsIn_of_wp Try.func123 rfl trivial ?_ rfl
  simp only [Try.ntmps123, List.size_toArray, List.length_cons, List.length_nil, Nat.reduceAdd, Nat.reduceSub, Array.replicate_succ, Array.replicate_zero, List.push_toArray, List.append_toArray, List.nil_append, List.cons_append]
  gi_wp2
  gi_loopw [3, 8] (fun a i wr => ∃ (k : Nat) (at_ : Int) (pre : List S50), k ≤ xs.length ∧ a = .int .i64 at_ ∧ i = .int .i64 k ∧ J pre wr ∧ Aside0 (pre ++ spansGo (xs.drop k) at_ = spansGo xs 0) ∧ Aside0 (Below w0.heap.size w0 wr) ∧ Aside0 (W.heap.size ≤ wr.heap.size))
    (fun _ i _ => xs.length - (intOf i).toNat)
  case atStart => exact ⟨0, 0, [], Nat.zero_le _, rfl, rfl, h0, ⟨rfl⟩, HW, ⟨Nat.le_refl _⟩⟩
  case round =>
    obtain ⟨k, at_, pre, hk, rfl, rfl, hJs, HP, HB, HS⟩ := hrel
    by_cases hlt : k < xs.length
    · have hltz : (k : Int) < (xs.length : Int) := by omega
      obtain ⟨ad, e1, a0, a1, a2⟩ := at_T108 (Kd.C_below HC.out HB.out) k hlt
      subst e1
      generalize hx : xs.getD k z108 = x at a0 a1 a2
      have hgd : xs[k] = x := by rw [← hx, List.getD_eq_getElem?_getD, List.getElem?_eq_getElem hlt]; rfl
      have HX := Aside0.mk hgd
      clear hx hgd
      gi_wp2
      have hb5 : Below wr.heap.size wr (wr.alloc (.cells #[.int .i64 x.f0, .int .i64 x.f1, .int .i64 x.f2] 108)).drew := ((Below.refl _ _).alloc (Nat.le_refl _) _).drew
      have x0 : (wr.alloc (.cells #[.int .i64 x.f0, .int .i64 x.f1, .int .i64 x.f2] 108)).drew.cell? ⟨wr.heap.size, 0, none⟩ = some (.int .i64 x.f0) := (blk_cell (blk_new _ _) 0).trans rfl
      have x1 : (wr.alloc (.cells #[.int .i64 x.f0, .int .i64 x.f1, .int .i64 x.f2] 108)).drew.cell? ⟨wr.heap.size, 1, none⟩ = some (.int .i64 x.f1) := (blk_cell (blk_new _ _) 1).trans rfl
      have x2 : (wr.alloc (.cells #[.int .i64 x.f0, .int .i64 x.f1, .int .i64 x.f2] 108)).drew.cell? ⟨wr.heap.size, 2, none⟩ = some (.int .i64 x.f2) := (blk_cell (blk_new _ _) 2).trans rfl
      have HB5 := Aside0.mk hb5
      clear hb5
      by_cases hp : (x.f0 == 10 && (x.f1 == 0)) = true
      · have heq : ∀ (d : Nat) (w : World), (Op.equalIn (d + 2) 85 (.agg #[.int .i64 x.f0, .int .i64 x.f1]) (.agg #[.int .i64 10, .int .i64 0])).run Try.prog w = .ok true w := fun d w => by rw [eq_T85, hp]
        have HPL := Aside0.mk hp
        clear hp
        refine wpIn_region_any (by kernel_rfl) ?_
        change wpAnyIn _ _ _ _ _ _ _ _ _ (World.drew _)
        refine wpAnyIn_take (i := 0) (v := ?_) rfl rfl (by kernel_rfl) (by kernel_rfl) (by kernel_rfl) (fun _ _ _ h => h) ⟨Or.inl ⟨by rfl, ?_⟩, fun _ => rfl⟩ ?_
        rotate_left
        · intro w
          go_simp
          try (with_reducible rfl)
        go_simp
        refine wpAnyIn_ready (rs := [1, 2]) (by kernel_rfl) (by simp) ?_
        refine AllReadyIn.cons rfl (fun K hK => ?_) (AllReadyIn.cons rfl (fun K hK => ?_) (AllReadyIn.nil))
        rotate_left
        · go_simp
          gi_wp2_with (refine ⟨trivial, ?_⟩; gi_at_call 105; refine (callsIn_wide.2 (impl_plainLook.calls 10 0 _ rfl)).mono ?_; rintro e w6 ⟨rfl, hb6⟩; have y0 := pw_cell_below hb6 x0; have y1 := pw_cell_below hb6 x1; have y2 := pw_cell_below hb6 x2; have HB6 := Aside0.mk (below_step HB5.out hb6); have HG6 := Aside0.mk ((hb6.block wr.heap.size (by simp)).trans (blk_new _ _)); clear hb6)
          refine wpAnyIn_ready (rs := [1]) (by kernel_rfl) (by simp) ?_
          refine AllReadyIn.cons rfl (fun K hK => ?_) (AllReadyIn.nil)
          go_simp
          refine hK _ _ ?_
          clear hK K
          refine wpAnyIn_take (i := 3) (v := ?_) rfl rfl (by kernel_rfl) (by kernel_rfl) (by kernel_rfl) (fun _ _ _ h => h) ⟨Or.inl ⟨by rfl, ?_⟩, fun _ => rfl⟩ ?_
          rotate_left
          · intro w
            go_simp
            try (with_reducible rfl)
          go_simp
          refine wpAnyIn_take (i := 4) (v := ?_) rfl rfl (by kernel_rfl) (by kernel_rfl) (by kernel_rfl) (fun _ _ _ h => h) ⟨Or.inl ⟨by rfl, ?_⟩, fun _ => rfl⟩ ?_
          rotate_left
          · intro w
            go_simp
            try (with_reducible rfl)
          go_simp
          refine wpAnyIn_take (i := 5) (v := undef) rfl rfl (by kernel_rfl) (by kernel_rfl) (by kernel_rfl) (fun _ _ _ h => h) ⟨Or.inr ⟨by rfl, rfl⟩, fun _ => rfl⟩ ?_
          go_simp
          refine wpAnyIn_take (i := 6) (v := undef) rfl rfl (by kernel_rfl) (by kernel_rfl) (by kernel_rfl) (fun _ _ _ h => h) ⟨Or.inr ⟨by rfl, rfl⟩, fun _ => rfl⟩ ?_
          go_simp
          refine wpAnyIn_take (i := 7) (v := undef) rfl rfl (by kernel_rfl) (by kernel_rfl) (by kernel_rfl) (fun _ _ _ h => h) ⟨Or.inr ⟨by rfl, rfl⟩, fun _ => rfl⟩ ?_
          go_simp
          refine wpAnyIn_take (i := 8) (v := undef) rfl rfl (by kernel_rfl) (by kernel_rfl) (by kernel_rfl) (fun _ _ _ h => h) ⟨Or.inr ⟨by rfl, rfl⟩, fun _ => rfl⟩ ?_
          go_simp
          refine wpAnyIn_take (i := 9) (v := undef) rfl rfl (by kernel_rfl) (by kernel_rfl) (by kernel_rfl) (fun _ _ _ h => h) ⟨Or.inr ⟨by rfl, rfl⟩, fun _ => rfl⟩ ?_
          go_simp
          refine wpAnyIn_take (i := 10) (v := undef) rfl rfl (by kernel_rfl) (by kernel_rfl) (by kernel_rfl) (fun _ _ _ h => h) ⟨Or.inr ⟨by rfl, rfl⟩, fun _ => rfl⟩ ?_
          go_simp
          refine wpAnyIn_take (i := 11) (v := undef) rfl rfl (by kernel_rfl) (by kernel_rfl) (by kernel_rfl) (fun _ _ _ h => h) ⟨Or.inr ⟨by rfl, rfl⟩, fun _ => rfl⟩ ?_
          go_simp
          refine wpAnyIn_take (i := 12) (v := undef) rfl rfl (by kernel_rfl) (by kernel_rfl) (by kernel_rfl) (fun _ _ _ h => h) ⟨Or.inr ⟨by rfl, rfl⟩, fun _ => rfl⟩ ?_
          go_simp
          refine wpAnyIn_take (i := 13) (v := undef) rfl rfl (by kernel_rfl) (by kernel_rfl) (by kernel_rfl) (fun _ _ _ h => h) ⟨Or.inr ⟨by rfl, rfl⟩, fun _ => rfl⟩ ?_
          go_simp
          refine wpAnyIn_take (i := 14) (v := undef) rfl rfl (by kernel_rfl) (by kernel_rfl) (by kernel_rfl) (fun _ _ _ h => h) ⟨Or.inr ⟨by rfl, rfl⟩, fun _ => rfl⟩ ?_
          go_simp
          refine wpAnyIn_take (i := 15) (v := undef) rfl rfl (by kernel_rfl) (by kernel_rfl) (by kernel_rfl) (fun _ _ _ h => h) ⟨Or.inr ⟨by rfl, rfl⟩, fun _ => rfl⟩ ?_
          go_simp
          refine wpAnyIn_take (i := 16) (v := undef) rfl rfl (by kernel_rfl) (by kernel_rfl) (by kernel_rfl) (fun _ _ _ h => h) ⟨Or.inr ⟨by rfl, rfl⟩, fun _ => rfl⟩ ?_
          go_simp
          refine wpAnyIn_take (i := 17) (v := undef) rfl rfl (by kernel_rfl) (by kernel_rfl) (by kernel_rfl) (fun _ _ _ h => h) ⟨Or.inr ⟨by rfl, rfl⟩, fun _ => rfl⟩ ?_
          go_simp
          refine wpAnyIn_take (i := 18) (v := undef) rfl rfl (by kernel_rfl) (by kernel_rfl) (by kernel_rfl) (fun _ _ _ h => h) ⟨Or.inr ⟨by rfl, rfl⟩, fun _ => rfl⟩ ?_
          go_simp
          refine wpAnyIn_take (i := 19) (v := undef) rfl rfl (by kernel_rfl) (by kernel_rfl) (by kernel_rfl) (fun _ _ _ h => h) ⟨Or.inr ⟨by rfl, rfl⟩, fun _ => rfl⟩ ?_
          go_simp
          refine wpAnyIn_take (i := 20) (v := ?_) rfl rfl (by kernel_rfl) (by kernel_rfl) (by kernel_rfl) (fun _ _ _ h => h) ⟨Or.inl ⟨by rfl, ?_⟩, fun _ => rfl⟩ ?_
          rotate_left
          · intro w
            go_simp
            try (with_reducible rfl)
          go_simp
          refine wpAnyIn_done (by kernel_rfl) ?_ _
          go_simp
          have hJ6 := HJ.out pre wr w6 none hJs (below_grown HB6.out) (fun r e => by cases e)
          have HB7 := Aside0.mk (below_step HB.out HB6.out)
          have hsz := HB6.out.size
          gi_wp2
          go_roundw
          case measure => simp [intOf]; omega
          case rel =>
            refine ⟨k + 1, wrap64 (at_ + x.f2), pre, by omega, rfl, by simp, hJ6, ⟨?_⟩, HB7, ⟨by have := HS.out; omega⟩⟩
            rw [← HP.out, List.drop_eq_getElem_cons hlt, HX.out, spansGo_plain _ _ _ HPL.out]
        · go_simp
          refine hK _ _ ?_
          clear hK K
          refine wpAnyIn_ready (rs := [2]) (by kernel_rfl) (by simp) ?_
          refine AllReadyIn.cons rfl (fun K hK => ?_) (AllReadyIn.nil)
          go_simp
          gi_wp2_with (refine ⟨trivial, ?_⟩; gi_at_call 105; refine (callsIn_wide.2 (impl_plainLook.calls 10 0 _ rfl)).mono ?_; rintro e w6 ⟨rfl, hb6⟩; have y0 := pw_cell_below hb6 x0; have y1 := pw_cell_below hb6 x1; have y2 := pw_cell_below hb6 x2; have HB6 := Aside0.mk (below_step HB5.out hb6); have HG6 := Aside0.mk ((hb6.block wr.heap.size (by simp)).trans (blk_new _ _)); clear hb6)
          refine wpAnyIn_take (i := 3) (v := ?_) rfl rfl (by kernel_rfl) (by kernel_rfl) (by kernel_rfl) (fun _ _ _ h => h) ⟨Or.inl ⟨by rfl, ?_⟩, fun _ => rfl⟩ ?_
          rotate_left
          · intro w
            go_simp
            try (with_reducible rfl)
          go_simp
          refine wpAnyIn_take (i := 4) (v := ?_) rfl rfl (by kernel_rfl) (by kernel_rfl) (by kernel_rfl) (fun _ _ _ h => h) ⟨Or.inl ⟨by rfl, ?_⟩, fun _ => rfl⟩ ?_
          rotate_left
          · intro w
            go_simp
            try (with_reducible rfl)
          go_simp
          refine wpAnyIn_take (i := 5) (v := undef) rfl rfl (by kernel_rfl) (by kernel_rfl) (by kernel_rfl) (fun _ _ _ h => h) ⟨Or.inr ⟨by rfl, rfl⟩, fun _ => rfl⟩ ?_
          go_simp
          refine wpAnyIn_take (i := 6) (v := undef) rfl rfl (by kernel_rfl) (by kernel_rfl) (by kernel_rfl) (fun _ _ _ h => h) ⟨Or.inr ⟨by rfl, rfl⟩, fun _ => rfl⟩ ?_
          go_simp
          refine wpAnyIn_take (i := 7) (v := undef) rfl rfl (by kernel_rfl) (by kernel_rfl) (by kernel_rfl) (fun _ _ _ h => h) ⟨Or.inr ⟨by rfl, rfl⟩, fun _ => rfl⟩ ?_
          go_simp
          refine wpAnyIn_take (i := 8) (v := undef) rfl rfl (by kernel_rfl) (by kernel_rfl) (by kernel_rfl) (fun _ _ _ h => h) ⟨Or.inr ⟨by rfl, rfl⟩, fun _ => rfl⟩ ?_
          go_simp
          refine wpAnyIn_take (i := 9) (v := undef) rfl rfl (by kernel_rfl) (by kernel_rfl) (by kernel_rfl) (fun _ _ _ h => h) ⟨Or.inr ⟨by rfl, rfl⟩, fun _ => rfl⟩ ?_
          go_simp
          refine wpAnyIn_take (i := 10) (v := undef) rfl rfl (by kernel_rfl) (by kernel_rfl) (by kernel_rfl) (fun _ _ _ h => h) ⟨Or.inr ⟨by rfl, rfl⟩, fun _ => rfl⟩ ?_
          go_simp
          refine wpAnyIn_take (i := 11) (v := undef) rfl rfl (by kernel_rfl) (by kernel_rfl) (by kernel_rfl) (fun _ _ _ h => h) ⟨Or.inr ⟨by rfl, rfl⟩, fun _ => rfl⟩ ?_
          go_simp
          refine wpAnyIn_take (i := 12) (v := undef) rfl rfl (by kernel_rfl) (by kernel_rfl) (by kernel_rfl) (fun _ _ _ h => h) ⟨Or.inr ⟨by rfl, rfl⟩, fun _ => rfl⟩ ?_
          go_simp
          refine wpAnyIn_take (i := 13) (v := undef) rfl rfl (by kernel_rfl) (by kernel_rfl) (by kernel_rfl) (fun _ _ _ h => h) ⟨Or.inr ⟨by rfl, rfl⟩, fun _ => rfl⟩ ?_
          go_simp
          refine wpAnyIn_take (i := 14) (v := undef) rfl rfl (by kernel_rfl) (by kernel_rfl) (by kernel_rfl) (fun _ _ _ h => h) ⟨Or.inr ⟨by rfl, rfl⟩, fun _ => rfl⟩ ?_
          go_simp
          refine wpAnyIn_take (i := 15) (v := undef) rfl rfl (by kernel_rfl) (by kernel_rfl) (by kernel_rfl) (fun _ _ _ h => h) ⟨Or.inr ⟨by rfl, rfl⟩, fun _ => rfl⟩ ?_
          go_simp
          refine wpAnyIn_take (i := 16) (v := undef) rfl rfl (by kernel_rfl) (by kernel_rfl) (by kernel_rfl) (fun _ _ _ h => h) ⟨Or.inr ⟨by rfl, rfl⟩, fun _ => rfl⟩ ?_
          go_simp
          refine wpAnyIn_take (i := 17) (v := undef) rfl rfl (by kernel_rfl) (by kernel_rfl) (by kernel_rfl) (fun _ _ _ h => h) ⟨Or.inr ⟨by rfl, rfl⟩, fun _ => rfl⟩ ?_
          go_simp
          refine wpAnyIn_take (i := 18) (v := undef) rfl rfl (by kernel_rfl) (by kernel_rfl) (by kernel_rfl) (fun _ _ _ h => h) ⟨Or.inr ⟨by rfl, rfl⟩, fun _ => rfl⟩ ?_
          go_simp
          refine wpAnyIn_take (i := 19) (v := undef) rfl rfl (by kernel_rfl) (by kernel_rfl) (by kernel_rfl) (fun _ _ _ h => h) ⟨Or.inr ⟨by rfl, rfl⟩, fun _ => rfl⟩ ?_
          go_simp
          refine wpAnyIn_take (i := 20) (v := ?_) rfl rfl (by kernel_rfl) (by kernel_rfl) (by kernel_rfl) (fun _ _ _ h => h) ⟨Or.inl ⟨by rfl, ?_⟩, fun _ => rfl⟩ ?_
          rotate_left
          · intro w
            go_simp
            try (with_reducible rfl)
          go_simp
          refine wpAnyIn_done (by kernel_rfl) ?_ _
          go_simp
          have hJ6 := HJ.out pre wr w6 none hJs (below_grown HB6.out) (fun r e => by cases e)
          have HB7 := Aside0.mk (below_step HB.out HB6.out)
          have hsz := HB6.out.size
          gi_wp2
          go_roundw
          case measure => simp [intOf]; omega
          case rel =>
            refine ⟨k + 1, wrap64 (at_ + x.f2), pre, by omega, rfl, by simp, hJ6, ⟨?_⟩, HB7, ⟨by have := HS.out; omega⟩⟩
            rw [← HP.out, List.drop_eq_getElem_cons hlt, HX.out, spansGo_plain _ _ _ HPL.out]
      · replace hp : (x.f0 == 10 && (x.f1 == 0)) = false := by simpa using hp
        have heq : ∀ (d : Nat) (w : World), (Op.equalIn (d + 2) 85 (.agg #[.int .i64 x.f0, .int .i64 x.f1]) (.agg #[.int .i64 10, .int .i64 0])).run Try.prog w = .ok false w := fun d w => by rw [eq_T85, hp]
        have HPL := Aside0.mk hp
        clear hp
        refine wpIn_region_any (by kernel_rfl) ?_
        change wpAnyIn _ _ _ _ _ _ _ _ _ (World.drew _)
        refine wpAnyIn_take (i := 0) (v := ?_) rfl rfl (by kernel_rfl) (by kernel_rfl) (by kernel_rfl) (fun _ _ _ h => h) ⟨Or.inl ⟨by rfl, ?_⟩, fun _ => rfl⟩ ?_
        rotate_left
        · intro w
          go_simp
          try (with_reducible rfl)
        go_simp
        refine wpAnyIn_ready (rs := [1, 2]) (by kernel_rfl) (by simp) ?_
        refine AllReadyIn.cons rfl (fun K hK => ?_) (AllReadyIn.cons rfl (fun K hK => ?_) (AllReadyIn.nil))
        rotate_left
        · go_simp
          gi_wp2_with (refine ⟨trivial, ?_⟩; gi_at_call 105; refine (callsIn_wide.2 (impl_plainLook.calls 10 0 _ rfl)).mono ?_; rintro e w6 ⟨rfl, hb6⟩; have y0 := pw_cell_below hb6 x0; have y1 := pw_cell_below hb6 x1; have y2 := pw_cell_below hb6 x2; have HB6 := Aside0.mk (below_step HB5.out hb6); have HG6 := Aside0.mk ((hb6.block wr.heap.size (by simp)).trans (blk_new _ _)); clear hb6)
          refine wpAnyIn_ready (rs := [1]) (by kernel_rfl) (by simp) ?_
          refine AllReadyIn.cons rfl (fun K hK => ?_) (AllReadyIn.nil)
          go_simp
          refine hK _ _ ?_
          clear hK K
          refine wpAnyIn_take (i := 3) (v := ?_) rfl rfl (by kernel_rfl) (by kernel_rfl) (by kernel_rfl) (fun _ _ _ h => h) ⟨Or.inl ⟨by rfl, ?_⟩, fun _ => rfl⟩ ?_
          rotate_left
          · intro w
            go_simp
            try (with_reducible rfl)
          go_simp
          refine wpAnyIn_take (i := 4) (v := ?_) rfl rfl (by kernel_rfl) (by kernel_rfl) (by kernel_rfl) (fun _ _ _ h => h) ⟨Or.inl ⟨by rfl, ?_⟩, fun _ => rfl⟩ ?_
          rotate_left
          · intro w
            go_simp
            try (with_reducible rfl)
          go_simp
          refine wpAnyIn_take (i := 5) (v := ?_) rfl rfl (by kernel_rfl) (by kernel_rfl) (by kernel_rfl) (fun _ _ _ h => h) ⟨Or.inl ⟨by rfl, ?_⟩, fun _ => rfl⟩ ?_
          rotate_left
          · intro w
            go_simp
            try (with_reducible rfl)
          go_simp
          refine wpAnyIn_take (i := 6) (v := ?_) rfl rfl (by kernel_rfl) (by kernel_rfl) (by kernel_rfl) (fun _ _ _ h => h) ⟨Or.inl ⟨by rfl, ?_⟩, fun _ => rfl⟩ ?_
          rotate_left
          · intro w
            go_simp
            try (with_reducible rfl)
          go_simp
          refine wpAnyIn_take (i := 7) (v := ?_) rfl rfl (by kernel_rfl) (by kernel_rfl) (by kernel_rfl) (fun _ _ _ h => h) ⟨Or.inl ⟨by rfl, ?_⟩, fun _ => rfl⟩ ?_
          rotate_left
          · intro w
            go_simp
            try (with_reducible rfl)
          go_simp
          refine wpAnyIn_take (i := 8) (v := ?_) rfl rfl (by kernel_rfl) (by kernel_rfl) (by kernel_rfl) (fun _ _ _ h => h) ⟨Or.inl ⟨by rfl, ?_⟩, fun _ => rfl⟩ ?_
          rotate_left
          · intro w
            go_simp
            try (with_reducible rfl)
          go_simp
          refine wpAnyIn_take (i := 11) (v := ?_) rfl rfl (by kernel_rfl) (by kernel_rfl) (by kernel_rfl) (fun _ _ _ h => h) ⟨Or.inl ⟨by rfl, ?_⟩, fun _ => rfl⟩ ?_
          rotate_left
          · intro w
            go_simp
            try (with_reducible rfl)
          go_simp
          refine wpAnyIn_take (i := 12) (v := ?_) rfl rfl (by kernel_rfl) (by kernel_rfl) (by kernel_rfl) (fun _ _ _ h => h) ⟨Or.inl ⟨by rfl, ?_⟩, fun _ => rfl⟩ ?_
          rotate_left
          · intro w
            go_simp
            try (with_reducible rfl)
          go_simp
          refine wpAnyIn_take (i := 14) (v := ?_) rfl rfl (by kernel_rfl) (by kernel_rfl) (by kernel_rfl) (fun _ _ _ h => h) ⟨Or.inl ⟨by rfl, ?_⟩, fun _ => rfl⟩ ?_
          rotate_left
          · intro w
            go_simp
            try (with_reducible rfl)
          go_simp
          refine wpAnyIn_take (i := 15) (v := ?_) rfl rfl (by kernel_rfl) (by kernel_rfl) (by kernel_rfl) (fun _ _ _ h => h) ⟨Or.inl ⟨by rfl, ?_⟩, fun _ => rfl⟩ ?_
          rotate_left
          · intro w
            go_simp
            try (with_reducible rfl)
          go_simp
          refine wpAnyIn_ready (rs := [9, 13, 16]) (by kernel_rfl) (by simp) ?_
          refine AllReadyIn.cons rfl (fun K hK => ?_) (AllReadyIn.cons rfl (fun K hK => ?_) (AllReadyIn.cons rfl (fun K hK => ?_) (AllReadyIn.nil)))
          · go_simp
            refine hK _ _ ?_
            clear hK K
            refine wpAnyIn_take (i := 10) (v := ?_) rfl rfl (by kernel_rfl) (by kernel_rfl) (by kernel_rfl) (fun _ _ _ h => h) ⟨Or.inl ⟨by rfl, ?_⟩, fun _ => rfl⟩ ?_
            rotate_left
            · intro w
              go_simp
              try (with_reducible rfl)
            go_simp
            refine wpAnyIn_ready (rs := [13, 16]) (by kernel_rfl) (by simp) ?_
            refine AllReadyIn.cons rfl (fun K hK => ?_) (AllReadyIn.cons rfl (fun K hK => ?_) (AllReadyIn.nil))
            · go_simp
              refine hK _ _ ?_
              clear hK K
              refine wpAnyIn_ready (rs := [16]) (by kernel_rfl) (by simp) ?_
              refine AllReadyIn.cons rfl (fun K hK => ?_) (AllReadyIn.nil)
              go_simp
              refine hK _ _ ?_
              clear hK K
              refine wpAnyIn_take (i := 17) (v := ?_) rfl rfl (by kernel_rfl) (by kernel_rfl) (by kernel_rfl) (fun _ _ _ h => h) ⟨Or.inl ⟨by rfl, ?_⟩, fun _ => rfl⟩ ?_
              rotate_left
              · intro w
                go_simp
                try (with_reducible rfl)
              go_simp
              have hlen : pre.length < N := by
                have h1 := congrArg List.length HP.out
                rw [List.drop_eq_getElem_cons hlt, HX.out, spansGo_other _ _ _ HPL.out, List.length_append, List.length_cons] at h1
                omega
              obtain ⟨fn, tmps, assign, body, hy, hR⟩ := HY.out pre ⟨at_, IntKind.i64.wrap (at_ + x.f2), x.f0, x.f1⟩ w6 (HJ.out pre wr w6 none hJs (below_grown HB6.out) (fun r e => by cases e)) hlen
              dsimp only [encS] at hy
              refine wpAnyIn_ready (rs := [18]) (by kernel_rfl) (by simp) ?_
              refine AllReadyIn.cons rfl (fun K hK => ?_) (AllReadyIn.nil)
              go_simp
              gi_wp2
              refine hR.mono ?_
              rintro e W3 ⟨b, rfl, hb3⟩
              have HY3 := Aside0.mk hb3
              clear hb3 hR
              go_simp
              refine hK _ _ ?_
              clear hK K
              refine wpAnyIn_take (i := 19) (v := ?_) rfl rfl (by kernel_rfl) (by kernel_rfl) (by kernel_rfl) (fun _ _ _ h => h) ⟨Or.inl ⟨by rfl, ?_⟩, fun _ => rfl⟩ ?_
              rotate_left
              · intro w
                go_simp
                try (with_reducible rfl)
              go_simp
              refine wpAnyIn_take (i := 20) (v := ?_) rfl rfl (by kernel_rfl) (by kernel_rfl) (by kernel_rfl) (fun _ _ _ h => h) ⟨Or.inl ⟨by rfl, ?_⟩, fun _ => rfl⟩ ?_
              rotate_left
              · intro w
                go_simp
                try (with_reducible rfl)
              go_simp
              refine wpAnyIn_done (by kernel_rfl) ?_ _
              go_simp
              have hsz := HB6.out.size
              cases b with
              | true =>
                obtain ⟨hJ3, hB3, hT3⟩ := HY3.out.1 rfl
                have z2 : W3.cell? ⟨wr.heap.size, 2, none⟩ = some (.int .i64 x.f2) := (blk_cell (hT3 _ _ HG6.out) 2).trans rfl
                have HJ3 := Aside0.mk hJ3
                have HB7 := Aside0.mk (HB.out.trans ((HB6.out.mono (by have := HB.out.size; omega)).trans hB3))
                have HS3 := Aside0.mk hB3.size
                clear hJ3 hB3 hT3
                gi_wp2
                go_roundw
                case measure => simp [intOf]; omega
                case rel =>
                  refine ⟨k + 1, wrap64 (at_ + x.f2), _, by omega, rfl, by simp, HJ3.out, ⟨?_⟩, HB7, ⟨by have := HS.out; have := HS3.out; omega⟩⟩
                  rw [← HP.out, List.drop_eq_getElem_cons hlt, HX.out, spansGo_other _ _ _ HPL.out, i64_w, List.append_assoc]
                  rfl
              | false =>
                have HJ3 := Aside0.mk (HY3.out.2 rfl)
                gi_wp2
                refine bodyPost_ret (results_none rfl _ _ _) rfl ?_
                exact ⟨⟨_, rfl⟩, .inr ⟨_, trivial, HJ3.out⟩⟩
            · go_simp
              refine hK _ _ ?_
              clear hK K
              refine wpAnyIn_ready (rs := [13]) (by kernel_rfl) (by simp) ?_
              refine AllReadyIn.cons rfl (fun K hK => ?_) (AllReadyIn.nil)
              go_simp
              refine hK _ _ ?_
              clear hK K
              refine wpAnyIn_take (i := 17) (v := ?_) rfl rfl (by kernel_rfl) (by kernel_rfl) (by kernel_rfl) (fun _ _ _ h => h) ⟨Or.inl ⟨by rfl, ?_⟩, fun _ => rfl⟩ ?_
              rotate_left
              · intro w
                go_simp
                try (with_reducible rfl)
              go_simp
              have hlen : pre.length < N := by
                have h1 := congrArg List.length HP.out
                rw [List.drop_eq_getElem_cons hlt, HX.out, spansGo_other _ _ _ HPL.out, List.length_append, List.length_cons] at h1
                omega
              obtain ⟨fn, tmps, assign, body, hy, hR⟩ := HY.out pre ⟨at_, IntKind.i64.wrap (at_ + x.f2), x.f0, x.f1⟩ w6 (HJ.out pre wr w6 none hJs (below_grown HB6.out) (fun r e => by cases e)) hlen
              dsimp only [encS] at hy
              refine wpAnyIn_ready (rs := [18]) (by kernel_rfl) (by simp) ?_
              refine AllReadyIn.cons rfl (fun K hK => ?_) (AllReadyIn.nil)
              go_simp
              gi_wp2
              refine hR.mono ?_
              rintro e W3 ⟨b, rfl, hb3⟩
              have HY3 := Aside0.mk hb3
              clear hb3 hR
              go_simp
              refine hK _ _ ?_
              clear hK K
              refine wpAnyIn_take (i := 19) (v := ?_) rfl rfl (by kernel_rfl) (by kernel_rfl) (by kernel_rfl) (fun _ _ _ h => h) ⟨Or.inl ⟨by rfl, ?_⟩, fun _ => rfl⟩ ?_
              rotate_left
              · intro w
                go_simp
                try (with_reducible rfl)
              go_simp
              refine wpAnyIn_take (i := 20) (v := ?_) rfl rfl (by kernel_rfl) (by kernel_rfl) (by kernel_rfl) (fun _ _ _ h => h) ⟨Or.inl ⟨by rfl, ?_⟩, fun _ => rfl⟩ ?_
              rotate_left
              · intro w
                go_simp
                try (with_reducible rfl)
              go_simp
              refine wpAnyIn_done (by kernel_rfl) ?_ _
              go_simp
              have hsz := HB6.out.size
              cases b with
              | true =>
                obtain ⟨hJ3, hB3, hT3⟩ := HY3.out.1 rfl
                have z2 : W3.cell? ⟨wr.heap.size, 2, none⟩ = some (.int .i64 x.f2) := (blk_cell (hT3 _ _ HG6.out) 2).trans rfl
                have HJ3 := Aside0.mk hJ3
                have HB7 := Aside0.mk (HB.out.trans ((HB6.out.mono (by have := HB.out.size; omega)).trans hB3))
                have HS3 := Aside0.mk hB3.size
                clear hJ3 hB3 hT3
                gi_wp2
                go_roundw
                case measure => simp [intOf]; omega
                case rel =>
                  refine ⟨k + 1, wrap64 (at_ + x.f2), _, by omega, rfl, by simp, HJ3.out, ⟨?_⟩, HB7, ⟨by have := HS.out; have := HS3.out; omega⟩⟩
                  rw [← HP.out, List.drop_eq_getElem_cons hlt, HX.out, spansGo_other _ _ _ HPL.out, i64_w, List.append_assoc]
                  rfl
              | false =>
                have HJ3 := Aside0.mk (HY3.out.2 rfl)
                gi_wp2
                refine bodyPost_ret (results_none rfl _ _ _) rfl ?_
                exact ⟨⟨_, rfl⟩, .inr ⟨_, trivial, HJ3.out⟩⟩
          · go_simp
            refine hK _ _ ?_
            clear hK K
            refine wpAnyIn_ready (rs := [9, 16]) (by kernel_rfl) (by simp) ?_
            refine AllReadyIn.cons rfl (fun K hK => ?_) (AllReadyIn.cons rfl (fun K hK => ?_) (AllReadyIn.nil))
            · go_simp
              refine hK _ _ ?_
              clear hK K
              refine wpAnyIn_take (i := 10) (v := ?_) rfl rfl (by kernel_rfl) (by kernel_rfl) (by kernel_rfl) (fun _ _ _ h => h) ⟨Or.inl ⟨by rfl, ?_⟩, fun _ => rfl⟩ ?_
              rotate_left
              · intro w
                go_simp
                try (with_reducible rfl)
              go_simp
              refine wpAnyIn_ready (rs := [16]) (by kernel_rfl) (by simp) ?_
              refine AllReadyIn.cons rfl (fun K hK => ?_) (AllReadyIn.nil)
              go_simp
              refine hK _ _ ?_
              clear hK K
              refine wpAnyIn_take (i := 17) (v := ?_) rfl rfl (by kernel_rfl) (by kernel_rfl) (by kernel_rfl) (fun _ _ _ h => h) ⟨Or.inl ⟨by rfl, ?_⟩, fun _ => rfl⟩ ?_
              rotate_left
              · intro w
                go_simp
                try (with_reducible rfl)
              go_simp
              have hlen : pre.length < N := by
                have h1 := congrArg List.length HP.out
                rw [List.drop_eq_getElem_cons hlt, HX.out, spansGo_other _ _ _ HPL.out, List.length_append, List.length_cons] at h1
                omega
              obtain ⟨fn, tmps, assign, body, hy, hR⟩ := HY.out pre ⟨at_, IntKind.i64.wrap (at_ + x.f2), x.f0, x.f1⟩ w6 (HJ.out pre wr w6 none hJs (below_grown HB6.out) (fun r e => by cases e)) hlen
              dsimp only [encS] at hy
              refine wpAnyIn_ready (rs := [18]) (by kernel_rfl) (by simp) ?_
              refine AllReadyIn.cons rfl (fun K hK => ?_) (AllReadyIn.nil)
              go_simp
              gi_wp2
              refine hR.mono ?_
              rintro e W3 ⟨b, rfl, hb3⟩
              have HY3 := Aside0.mk hb3
              clear hb3 hR
              go_simp
              refine hK _ _ ?_
              clear hK K
              refine wpAnyIn_take (i := 19) (v := ?_) rfl rfl (by kernel_rfl) (by kernel_rfl) (by kernel_rfl) (fun _ _ _ h => h) ⟨Or.inl ⟨by rfl, ?_⟩, fun _ => rfl⟩ ?_
              rotate_left
              · intro w
                go_simp
                try (with_reducible rfl)
              go_simp
              refine wpAnyIn_take (i := 20) (v := ?_) rfl rfl (by kernel_rfl) (by kernel_rfl) (by kernel_rfl) (fun _ _ _ h => h) ⟨Or.inl ⟨by rfl, ?_⟩, fun _ => rfl⟩ ?_
              rotate_left
              · intro w
                go_simp
                try (with_reducible rfl)
              go_simp
              refine wpAnyIn_done (by kernel_rfl) ?_ _
              go_simp
              have hsz := HB6.out.size
              cases b with
              | true =>
                obtain ⟨hJ3, hB3, hT3⟩ := HY3.out.1 rfl
                have z2 : W3.cell? ⟨wr.heap.size, 2, none⟩ = some (.int .i64 x.f2) := (blk_cell (hT3 _ _ HG6.out) 2).trans rfl
                have HJ3 := Aside0.mk hJ3
                have HB7 := Aside0.mk (HB.out.trans ((HB6.out.mono (by have := HB.out.size; omega)).trans hB3))
                have HS3 := Aside0.mk hB3.size
                clear hJ3 hB3 hT3
                gi_wp2
                go_roundw
                case measure => simp [intOf]; omega
                case rel =>
                  refine ⟨k + 1, wrap64 (at_ + x.f2), _, by omega, rfl, by simp, HJ3.out, ⟨?_⟩, HB7, ⟨by have := HS.out; have := HS3.out; omega⟩⟩
                  rw [← HP.out, List.drop_eq_getElem_cons hlt, HX.out, spansGo_other _ _ _ HPL.out, i64_w, List.append_assoc]
                  rfl
              | false =>
                have HJ3 := Aside0.mk (HY3.out.2 rfl)
                gi_wp2
                refine bodyPost_ret (results_none rfl _ _ _) rfl ?_
                exact ⟨⟨_, rfl⟩, .inr ⟨_, trivial, HJ3.out⟩⟩
            · go_simp
              refine hK _ _ ?_
              clear hK K
              refine wpAnyIn_ready (rs := [9]) (by kernel_rfl) (by simp) ?_
              refine AllReadyIn.cons rfl (fun K hK => ?_) (AllReadyIn.nil)
              go_simp
              refine hK _ _ ?_
              clear hK K
              refine wpAnyIn_take (i := 10) (v := ?_) rfl rfl (by kernel_rfl) (by kernel_rfl) (by kernel_rfl) (fun _ _ _ h => h) ⟨Or.inl ⟨by rfl, ?_⟩, fun _ => rfl⟩ ?_
              rotate_left
              · intro w
                go_simp
                try (with_reducible rfl)
              go_simp
              refine wpAnyIn_take (i := 17) (v := ?_) rfl rfl (by kernel_rfl) (by kernel_rfl) (by kernel_rfl) (fun _ _ _ h => h) ⟨Or.inl ⟨by rfl, ?_⟩, fun _ => rfl⟩ ?_
              rotate_left
              · intro w
                go_simp
                try (with_reducible rfl)
              go_simp
              have hlen : pre.length < N := by
                have h1 := congrArg List.length HP.out
                rw [List.drop_eq_getElem_cons hlt, HX.out, spansGo_other _ _ _ HPL.out, List.length_append, List.length_cons] at h1
                omega
              obtain ⟨fn, tmps, assign, body, hy, hR⟩ := HY.out pre ⟨at_, IntKind.i64.wrap (at_ + x.f2), x.f0, x.f1⟩ w6 (HJ.out pre wr w6 none hJs (below_grown HB6.out) (fun r e => by cases e)) hlen
              dsimp only [encS] at hy
              refine wpAnyIn_ready (rs := [18]) (by kernel_rfl) (by simp) ?_
              refine AllReadyIn.cons rfl (fun K hK => ?_) (AllReadyIn.nil)
              go_simp
              gi_wp2
              refine hR.mono ?_
              rintro e W3 ⟨b, rfl, hb3⟩
              have HY3 := Aside0.mk hb3
              clear hb3 hR
              go_simp
              refine hK _ _ ?_
              clear hK K
              refine wpAnyIn_take (i := 19) (v := ?_) rfl rfl (by kernel_rfl) (by kernel_rfl) (by kernel_rfl) (fun _ _ _ h => h) ⟨Or.inl ⟨by rfl, ?_⟩, fun _ => rfl⟩ ?_
              rotate_left
              · intro w
                go_simp
                try (with_reducible rfl)
              go_simp
              refine wpAnyIn_take (i := 20) (v := ?_) rfl rfl (by kernel_rfl) (by kernel_rfl) (by kernel_rfl) (fun _ _ _ h => h) ⟨Or.inl ⟨by rfl, ?_⟩, fun _ => rfl⟩ ?_
              rotate_left
              · intro w
                go_simp
                try (with_reducible rfl)
              go_simp
              refine wpAnyIn_done (by kernel_rfl) ?_ _
              go_simp
              have hsz := HB6.out.size
              cases b with
              | true =>
                obtain ⟨hJ3, hB3, hT3⟩ := HY3.out.1 rfl
                have z2 : W3.cell? ⟨wr.heap.size, 2, none⟩ = some (.int .i64 x.f2) := (blk_cell (hT3 _ _ HG6.out) 2).trans rfl
                have HJ3 := Aside0.mk hJ3
                have HB7 := Aside0.mk (HB.out.trans ((HB6.out.mono (by have := HB.out.size; omega)).trans hB3))
                have HS3 := Aside0.mk hB3.size
                clear hJ3 hB3 hT3
                gi_wp2
                go_roundw
                case measure => simp [intOf]; omega
                case rel =>
                  refine ⟨k + 1, wrap64 (at_ + x.f2), _, by omega, rfl, by simp, HJ3.out, ⟨?_⟩, HB7, ⟨by have := HS.out; have := HS3.out; omega⟩⟩
                  rw [← HP.out, List.drop_eq_getElem_cons hlt, HX.out, spansGo_other _ _ _ HPL.out, i64_w, List.append_assoc]
                  rfl
              | false =>
                have HJ3 := Aside0.mk (HY3.out.2 rfl)
                gi_wp2
                refine bodyPost_ret (results_none rfl _ _ _) rfl ?_
                exact ⟨⟨_, rfl⟩, .inr ⟨_, trivial, HJ3.out⟩⟩
          · go_simp
            refine hK _ _ ?_
            clear hK K
            refine wpAnyIn_ready (rs := [9, 13]) (by kernel_rfl) (by simp) ?_
            refine AllReadyIn.cons rfl (fun K hK => ?_) (AllReadyIn.cons rfl (fun K hK => ?_) (AllReadyIn.nil))
            · go_simp
              refine hK _ _ ?_
              clear hK K
              refine wpAnyIn_take (i := 10) (v := ?_) rfl rfl (by kernel_rfl) (by kernel_rfl) (by kernel_rfl) (fun _ _ _ h => h) ⟨Or.inl ⟨by rfl, ?_⟩, fun _ => rfl⟩ ?_
              rotate_left
              · intro w
                go_simp
                try (with_reducible rfl)
              go_simp
              refine wpAnyIn_ready (rs := [13]) (by kernel_rfl) (by simp) ?_
              refine AllReadyIn.cons rfl (fun K hK => ?_) (AllReadyIn.nil)
              go_simp
              refine hK _ _ ?_
              clear hK K
              refine wpAnyIn_take (i := 17) (v := ?_) rfl rfl (by kernel_rfl) (by kernel_rfl) (by kernel_rfl) (fun _ _ _ h => h) ⟨Or.inl ⟨by rfl, ?_⟩, fun _ => rfl⟩ ?_
              rotate_left
              · intro w
                go_simp
                try (with_reducible rfl)
              go_simp
              have hlen : pre.length < N := by
                have h1 := congrArg List.length HP.out
                rw [List.drop_eq_getElem_cons hlt, HX.out, spansGo_other _ _ _ HPL.out, List.length_append, List.length_cons] at h1
                omega
              obtain ⟨fn, tmps, assign, body, hy, hR⟩ := HY.out pre ⟨at_, IntKind.i64.wrap (at_ + x.f2), x.f0, x.f1⟩ w6 (HJ.out pre wr w6 none hJs (below_grown HB6.out) (fun r e => by cases e)) hlen
              dsimp only [encS] at hy
              refine wpAnyIn_ready (rs := [18]) (by kernel_rfl) (by simp) ?_
              refine AllReadyIn.cons rfl (fun K hK => ?_) (AllReadyIn.nil)
              go_simp
              gi_wp2
              refine hR.mono ?_
              rintro e W3 ⟨b, rfl, hb3⟩
              have HY3 := Aside0.mk hb3
              clear hb3 hR
              go_simp
              refine hK _ _ ?_
              clear hK K
              refine wpAnyIn_take (i := 19) (v := ?_) rfl rfl (by kernel_rfl) (by kernel_rfl) (by kernel_rfl) (fun _ _ _ h => h) ⟨Or.inl ⟨by rfl, ?_⟩, fun _ => rfl⟩ ?_
              rotate_left
              · intro w
                go_simp
                try (with_reducible rfl)
              go_simp
              refine wpAnyIn_take (i := 20) (v := ?_) rfl rfl (by kernel_rfl) (by kernel_rfl) (by kernel_rfl) (fun _ _ _ h => h) ⟨Or.inl ⟨by rfl, ?_⟩, fun _ => rfl⟩ ?_
              rotate_left
              · intro w
                go_simp
                try (with_reducible rfl)
              go_simp
              refine wpAnyIn_done (by kernel_rfl) ?_ _
              go_simp
              have hsz := HB6.out.size
              cases b with
              | true =>
                obtain ⟨hJ3, hB3, hT3⟩ := HY3.out.1 rfl
                have z2 : W3.cell? ⟨wr.heap.size, 2, none⟩ = some (.int .i64 x.f2) := (blk_cell (hT3 _ _ HG6.out) 2).trans rfl
                have HJ3 := Aside0.mk hJ3
                have HB7 := Aside0.mk (HB.out.trans ((HB6.out.mono (by have := HB.out.size; omega)).trans hB3))
                have HS3 := Aside0.mk hB3.size
                clear hJ3 hB3 hT3
                gi_wp2
                go_roundw
                case measure => simp [intOf]; omega
                case rel =>
                  refine ⟨k + 1, wrap64 (at_ + x.f2), _, by omega, rfl, by simp, HJ3.out, ⟨?_⟩, HB7, ⟨by have := HS.out; have := HS3.out; omega⟩⟩
                  rw [← HP.out, List.drop_eq_getElem_cons hlt, HX.out, spansGo_other _ _ _ HPL.out, i64_w, List.append_assoc]
                  rfl
              | false =>
                have HJ3 := Aside0.mk (HY3.out.2 rfl)
                gi_wp2
                refine bodyPost_ret (results_none rfl _ _ _) rfl ?_
                exact ⟨⟨_, rfl⟩, .inr ⟨_, trivial, HJ3.out⟩⟩
            · go_simp
              refine hK _ _ ?_
              clear hK K
              refine wpAnyIn_ready (rs := [9]) (by kernel_rfl) (by simp) ?_
              refine AllReadyIn.cons rfl (fun K hK => ?_) (AllReadyIn.nil)
              go_simp
              refine hK _ _ ?_
              clear hK K
              refine wpAnyIn_take (i := 10) (v := ?_) rfl rfl (by kernel_rfl) (by kernel_rfl) (by kernel_rfl) (fun _ _ _ h => h) ⟨Or.inl ⟨by rfl, ?_⟩, fun _ => rfl⟩ ?_
              rotate_left
              · intro w
                go_simp
                try (with_reducible rfl)
              go_simp
              refine wpAnyIn_take (i := 17) (v := ?_) rfl rfl (by kernel_rfl) (by kernel_rfl) (by kernel_rfl) (fun _ _ _ h => h) ⟨Or.inl ⟨by rfl, ?_⟩, fun _ => rfl⟩ ?_
              rotate_left
              · intro w
                go_simp
                try (with_reducible rfl)
              go_simp
              have hlen : pre.length < N := by
                have h1 := congrArg List.length HP.out
                rw [List.drop_eq_getElem_cons hlt, HX.out, spansGo_other _ _ _ HPL.out, List.length_append, List.length_cons] at h1
                omega
              obtain ⟨fn, tmps, assign, body, hy, hR⟩ := HY.out pre ⟨at_, IntKind.i64.wrap (at_ + x.f2), x.f0, x.f1⟩ w6 (HJ.out pre wr w6 none hJs (below_grown HB6.out) (fun r e => by cases e)) hlen
              dsimp only [encS] at hy
              refine wpAnyIn_ready (rs := [18]) (by kernel_rfl) (by simp) ?_
              refine AllReadyIn.cons rfl (fun K hK => ?_) (AllReadyIn.nil)
              go_simp
              gi_wp2
              refine hR.mono ?_
              rintro e W3 ⟨b, rfl, hb3⟩
              have HY3 := Aside0.mk hb3
              clear hb3 hR
              go_simp
              refine hK _ _ ?_
              clear hK K
              refine wpAnyIn_take (i := 19) (v := ?_) rfl rfl (by kernel_rfl) (by kernel_rfl) (by kernel_rfl) (fun _ _ _ h => h) ⟨Or.inl ⟨by rfl, ?_⟩, fun _ => rfl⟩ ?_
              rotate_left
              · intro w
                go_simp
                try (with_reducible rfl)
              go_simp
              refine wpAnyIn_take (i := 20) (v := ?_) rfl rfl (by kernel_rfl) (by kernel_rfl) (by kernel_rfl) (fun _ _ _ h => h) ⟨Or.inl ⟨by rfl, ?_⟩, fun _ => rfl⟩ ?_
              rotate_left
              · intro w
                go_simp
                try (with_reducible rfl)
              go_simp
              refine wpAnyIn_done (by kernel_rfl) ?_ _
              go_simp
              have hsz := HB6.out.size
              cases b with
              | true =>
                obtain ⟨hJ3, hB3, hT3⟩ := HY3.out.1 rfl
                have z2 : W3.cell? ⟨wr.heap.size, 2, none⟩ = some (.int .i64 x.f2) := (blk_cell (hT3 _ _ HG6.out) 2).trans rfl
                have HJ3 := Aside0.mk hJ3
                have HB7 := Aside0.mk (HB.out.trans ((HB6.out.mono (by have := HB.out.size; omega)).trans hB3))
                have HS3 := Aside0.mk hB3.size
                clear hJ3 hB3 hT3
                gi_wp2
                go_roundw
                case measure => simp [intOf]; omega
                case rel =>
                  refine ⟨k + 1, wrap64 (at_ + x.f2), _, by omega, rfl, by simp, HJ3.out, ⟨?_⟩, HB7, ⟨by have := HS.out; have := HS3.out; omega⟩⟩
                  rw [← HP.out, List.drop_eq_getElem_cons hlt, HX.out, spansGo_other _ _ _ HPL.out, i64_w, List.append_assoc]
                  rfl
              | false =>
                have HJ3 := Aside0.mk (HY3.out.2 rfl)
                gi_wp2
                refine bodyPost_ret (results_none rfl _ _ _) rfl ?_
                exact ⟨⟨_, rfl⟩, .inr ⟨_, trivial, HJ3.out⟩⟩
        · go_simp
          refine hK _ _ ?_
          clear hK K
          refine wpAnyIn_ready (rs := [2]) (by kernel_rfl) (by simp) ?_
          refine AllReadyIn.cons rfl (fun K hK => ?_) (AllReadyIn.nil)
          go_simp
          gi_wp2_with (refine ⟨trivial, ?_⟩; gi_at_call 105; refine (callsIn_wide.2 (impl_plainLook.calls 10 0 _ rfl)).mono ?_; rintro e w6 ⟨rfl, hb6⟩; have y0 := pw_cell_below hb6 x0; have y1 := pw_cell_below hb6 x1; have y2 := pw_cell_below hb6 x2; have HB6 := Aside0.mk (below_step HB5.out hb6); have HG6 := Aside0.mk ((hb6.block wr.heap.size (by simp)).trans (blk_new _ _)); clear hb6)
          refine wpAnyIn_take (i := 3) (v := ?_) rfl rfl (by kernel_rfl) (by kernel_rfl) (by kernel_rfl) (fun _ _ _ h => h) ⟨Or.inl ⟨by rfl, ?_⟩, fun _ => rfl⟩ ?_
          rotate_left
          · intro w
            go_simp
            try (with_reducible rfl)
          go_simp
          refine wpAnyIn_take (i := 4) (v := ?_) rfl rfl (by kernel_rfl) (by kernel_rfl) (by kernel_rfl) (fun _ _ _ h => h) ⟨Or.inl ⟨by rfl, ?_⟩, fun _ => rfl⟩ ?_
          rotate_left
          · intro w
            go_simp
            try (with_reducible rfl)
          go_simp
          refine wpAnyIn_take (i := 5) (v := ?_) rfl rfl (by kernel_rfl) (by kernel_rfl) (by kernel_rfl) (fun _ _ _ h => h) ⟨Or.inl ⟨by rfl, ?_⟩, fun _ => rfl⟩ ?_
          rotate_left
          · intro w
            go_simp
            try (with_reducible rfl)
          go_simp
          refine wpAnyIn_take (i := 6) (v := ?_) rfl rfl (by kernel_rfl) (by kernel_rfl) (by kernel_rfl) (fun _ _ _ h => h) ⟨Or.inl ⟨by rfl, ?_⟩, fun _ => rfl⟩ ?_
          rotate_left
          · intro w
            go_simp
            try (with_reducible rfl)
          go_simp
          refine wpAnyIn_take (i := 7) (v := ?_) rfl rfl (by kernel_rfl) (by kernel_rfl) (by kernel_rfl) (fun _ _ _ h => h) ⟨Or.inl ⟨by rfl, ?_⟩, fun _ => rfl⟩ ?_
          rotate_left
          · intro w
            go_simp
            try (with_reducible rfl)
          go_simp
          refine wpAnyIn_take (i := 8) (v := ?_) rfl rfl (by kernel_rfl) (by kernel_rfl) (by kernel_rfl) (fun _ _ _ h => h) ⟨Or.inl ⟨by rfl, ?_⟩, fun _ => rfl⟩ ?_
          rotate_left
          · intro w
            go_simp
            try (with_reducible rfl)
          go_simp
          refine wpAnyIn_take (i := 11) (v := ?_) rfl rfl (by kernel_rfl) (by kernel_rfl) (by kernel_rfl) (fun _ _ _ h => h) ⟨Or.inl ⟨by rfl, ?_⟩, fun _ => rfl⟩ ?_
          rotate_left
          · intro w
            go_simp
            try (with_reducible rfl)
          go_simp
          refine wpAnyIn_take (i := 12) (v := ?_) rfl rfl (by kernel_rfl) (by kernel_rfl) (by kernel_rfl) (fun _ _ _ h => h) ⟨Or.inl ⟨by rfl, ?_⟩, fun _ => rfl⟩ ?_
          rotate_left
          · intro w
            go_simp
            try (with_reducible rfl)
          go_simp
          refine wpAnyIn_take (i := 14) (v := ?_) rfl rfl (by kernel_rfl) (by kernel_rfl) (by kernel_rfl) (fun _ _ _ h => h) ⟨Or.inl ⟨by rfl, ?_⟩, fun _ => rfl⟩ ?_
          rotate_left
          · intro w
            go_simp
            try (with_reducible rfl)
          go_simp
          refine wpAnyIn_take (i := 15) (v := ?_) rfl rfl (by kernel_rfl) (by kernel_rfl) (by kernel_rfl) (fun _ _ _ h => h) ⟨Or.inl ⟨by rfl, ?_⟩, fun _ => rfl⟩ ?_
          rotate_left
          · intro w
            go_simp
            try (with_reducible rfl)
          go_simp
          refine wpAnyIn_ready (rs := [9, 13, 16]) (by kernel_rfl) (by simp) ?_
          refine AllReadyIn.cons rfl (fun K hK => ?_) (AllReadyIn.cons rfl (fun K hK => ?_) (AllReadyIn.cons rfl (fun K hK => ?_) (AllReadyIn.nil)))
          · go_simp
            refine hK _ _ ?_
            clear hK K
            refine wpAnyIn_take (i := 10) (v := ?_) rfl rfl (by kernel_rfl) (by kernel_rfl) (by kernel_rfl) (fun _ _ _ h => h) ⟨Or.inl ⟨by rfl, ?_⟩, fun _ => rfl⟩ ?_
            rotate_left
            · intro w
              go_simp
              try (with_reducible rfl)
            go_simp
            refine wpAnyIn_ready (rs := [13, 16]) (by kernel_rfl) (by simp) ?_
            refine AllReadyIn.cons rfl (fun K hK => ?_) (AllReadyIn.cons rfl (fun K hK => ?_) (AllReadyIn.nil))
            · go_simp
              refine hK _ _ ?_
              clear hK K
              refine wpAnyIn_ready (rs := [16]) (by kernel_rfl) (by simp) ?_
              refine AllReadyIn.cons rfl (fun K hK => ?_) (AllReadyIn.nil)
              go_simp
              refine hK _ _ ?_
              clear hK K
              refine wpAnyIn_take (i := 17) (v := ?_) rfl rfl (by kernel_rfl) (by kernel_rfl) (by kernel_rfl) (fun _ _ _ h => h) ⟨Or.inl ⟨by rfl, ?_⟩, fun _ => rfl⟩ ?_
              rotate_left
              · intro w
                go_simp
                try (with_reducible rfl)
              go_simp
              have hlen : pre.length < N := by
                have h1 := congrArg List.length HP.out
                rw [List.drop_eq_getElem_cons hlt, HX.out, spansGo_other _ _ _ HPL.out, List.length_append, List.length_cons] at h1
                omega
              obtain ⟨fn, tmps, assign, body, hy, hR⟩ := HY.out pre ⟨at_, IntKind.i64.wrap (at_ + x.f2), x.f0, x.f1⟩ w6 (HJ.out pre wr w6 none hJs (below_grown HB6.out) (fun r e => by cases e)) hlen
              dsimp only [encS] at hy
              refine wpAnyIn_ready (rs := [18]) (by kernel_rfl) (by simp) ?_
              refine AllReadyIn.cons rfl (fun K hK => ?_) (AllReadyIn.nil)
              go_simp
              gi_wp2
              refine hR.mono ?_
              rintro e W3 ⟨b, rfl, hb3⟩
              have HY3 := Aside0.mk hb3
              clear hb3 hR
              go_simp
              refine hK _ _ ?_
              clear hK K
              refine wpAnyIn_take (i := 19) (v := ?_) rfl rfl (by kernel_rfl) (by kernel_rfl) (by kernel_rfl) (fun _ _ _ h => h) ⟨Or.inl ⟨by rfl, ?_⟩, fun _ => rfl⟩ ?_
              rotate_left
              · intro w
                go_simp
                try (with_reducible rfl)
              go_simp
              refine wpAnyIn_take (i := 20) (v := ?_) rfl rfl (by kernel_rfl) (by kernel_rfl) (by kernel_rfl) (fun _ _ _ h => h) ⟨Or.inl ⟨by rfl, ?_⟩, fun _ => rfl⟩ ?_
              rotate_left
              · intro w
                go_simp
                try (with_reducible rfl)
              go_simp
              refine wpAnyIn_done (by kernel_rfl) ?_ _
              go_simp
              have hsz := HB6.out.size
              cases b with
              | true =>
                obtain ⟨hJ3, hB3, hT3⟩ := HY3.out.1 rfl
                have z2 : W3.cell? ⟨wr.heap.size, 2, none⟩ = some (.int .i64 x.f2) := (blk_cell (hT3 _ _ HG6.out) 2).trans rfl
                have HJ3 := Aside0.mk hJ3
                have HB7 := Aside0.mk (HB.out.trans ((HB6.out.mono (by have := HB.out.size; omega)).trans hB3))
                have HS3 := Aside0.mk hB3.size
                clear hJ3 hB3 hT3
                gi_wp2
                go_roundw
                case measure => simp [intOf]; omega
                case rel =>
                  refine ⟨k + 1, wrap64 (at_ + x.f2), _, by omega, rfl, by simp, HJ3.out, ⟨?_⟩, HB7, ⟨by have := HS.out; have := HS3.out; omega⟩⟩
                  rw [← HP.out, List.drop_eq_getElem_cons hlt, HX.out, spansGo_other _ _ _ HPL.out, i64_w, List.append_assoc]
                  rfl
              | false =>
                have HJ3 := Aside0.mk (HY3.out.2 rfl)
                gi_wp2
                refine bodyPost_ret (results_none rfl _ _ _) rfl ?_
                exact ⟨⟨_, rfl⟩, .inr ⟨_, trivial, HJ3.out⟩⟩
            · go_simp
              refine hK _ _ ?_
              clear hK K
              refine wpAnyIn_ready (rs := [13]) (by kernel_rfl) (by simp) ?_
              refine AllReadyIn.cons rfl (fun K hK => ?_) (AllReadyIn.nil)
              go_simp
              refine hK _ _ ?_
              clear hK K
              refine wpAnyIn_take (i := 17) (v := ?_) rfl rfl (by kernel_rfl) (by kernel_rfl) (by kernel_rfl) (fun _ _ _ h => h) ⟨Or.inl ⟨by rfl, ?_⟩, fun _ => rfl⟩ ?_
              rotate_left
              · intro w
                go_simp
                try (with_reducible rfl)
              go_simp
              have hlen : pre.length < N := by
                have h1 := congrArg List.length HP.out
                rw [List.drop_eq_getElem_cons hlt, HX.out, spansGo_other _ _ _ HPL.out, List.length_append, List.length_cons] at h1
                omega
              obtain ⟨fn, tmps, assign, body, hy, hR⟩ := HY.out pre ⟨at_, IntKind.i64.wrap (at_ + x.f2), x.f0, x.f1⟩ w6 (HJ.out pre wr w6 none hJs (below_grown HB6.out) (fun r e => by cases e)) hlen
              dsimp only [encS] at hy
              refine wpAnyIn_ready (rs := [18]) (by kernel_rfl) (by simp) ?_
              refine AllReadyIn.cons rfl (fun K hK => ?_) (AllReadyIn.nil)
              go_simp
              gi_wp2
              refine hR.mono ?_
              rintro e W3 ⟨b, rfl, hb3⟩
              have HY3 := Aside0.mk hb3
              clear hb3 hR
              go_simp
              refine hK _ _ ?_
              clear hK K
              refine wpAnyIn_take (i := 19) (v := ?_) rfl rfl (by kernel_rfl) (by kernel_rfl) (by kernel_rfl) (fun _ _ _ h => h) ⟨Or.inl ⟨by rfl, ?_⟩, fun _ => rfl⟩ ?_
              rotate_left
              · intro w
                go_simp
                try (with_reducible rfl)
              go_simp
              refine wpAnyIn_take (i := 20) (v := ?_) rfl rfl (by kernel_rfl) (by kernel_rfl) (by kernel_rfl) (fun _ _ _ h => h) ⟨Or.inl ⟨by rfl, ?_⟩, fun _ => rfl⟩ ?_
              rotate_left
              · intro w
                go_simp
                try (with_reducible rfl)
              go_simp
              refine wpAnyIn_done (by kernel_rfl) ?_ _
              go_simp
              have hsz := HB6.out.size
              cases b with
              | true =>
                obtain ⟨hJ3, hB3, hT3⟩ := HY3.out.1 rfl
                have z2 : W3.cell? ⟨wr.heap.size, 2, none⟩ = some (.int .i64 x.f2) := (blk_cell (hT3 _ _ HG6.out) 2).trans rfl
                have HJ3 := Aside0.mk hJ3
                have HB7 := Aside0.mk (HB.out.trans ((HB6.out.mono (by have := HB.out.size; omega)).trans hB3))
                have HS3 := Aside0.mk hB3.size
                clear hJ3 hB3 hT3
                gi_wp2
                go_roundw
                case measure => simp [intOf]; omega
                case rel =>
                  refine ⟨k + 1, wrap64 (at_ + x.f2), _, by omega, rfl, by simp, HJ3.out, ⟨?_⟩, HB7, ⟨by have := HS.out; have := HS3.out; omega⟩⟩
                  rw [← HP.out, List.drop_eq_getElem_cons hlt, HX.out, spansGo_other _ _ _ HPL.out, i64_w, List.append_assoc]
                  rfl
              | false =>
                have HJ3 := Aside0.mk (HY3.out.2 rfl)
                gi_wp2
                refine bodyPost_ret (results_none rfl _ _ _) rfl ?_
                exact ⟨⟨_, rfl⟩, .inr ⟨_, trivial, HJ3.out⟩⟩
          · go_simp
            refine hK _ _ ?_
            clear hK K
            refine wpAnyIn_ready (rs := [9, 16]) (by kernel_rfl) (by simp) ?_
            refine AllReadyIn.cons rfl (fun K hK => ?_) (AllReadyIn.cons rfl (fun K hK => ?_) (AllReadyIn.nil))
            · go_simp
              refine hK _ _ ?_
              clear hK K
              refine wpAnyIn_take (i := 10) (v := ?_) rfl rfl (by kernel_rfl) (by kernel_rfl) (by kernel_rfl) (fun _ _ _ h => h) ⟨Or.inl ⟨by rfl, ?_⟩, fun _ => rfl⟩ ?_
              rotate_left
              · intro w
                go_simp
                try (with_reducible rfl)
              go_simp
              refine wpAnyIn_ready (rs := [16]) (by kernel_rfl) (by simp) ?_
              refine AllReadyIn.cons rfl (fun K hK => ?_) (AllReadyIn.nil)
              go_simp
              refine hK _ _ ?_
              clear hK K
              refine wpAnyIn_take (i := 17) (v := ?_) rfl rfl (by kernel_rfl) (by kernel_rfl) (by kernel_rfl) (fun _ _ _ h => h) ⟨Or.inl ⟨by rfl, ?_⟩, fun _ => rfl⟩ ?_
              rotate_left
              · intro w
                go_simp
                try (with_reducible rfl)
              go_simp
              have hlen : pre.length < N := by
                have h1 := congrArg List.length HP.out
                rw [List.drop_eq_getElem_cons hlt, HX.out, spansGo_other _ _ _ HPL.out, List.length_append, List.length_cons] at h1
                omega
              obtain ⟨fn, tmps, assign, body, hy, hR⟩ := HY.out pre ⟨at_, IntKind.i64.wrap (at_ + x.f2), x.f0, x.f1⟩ w6 (HJ.out pre wr w6 none hJs (below_grown HB6.out) (fun r e => by cases e)) hlen
              dsimp only [encS] at hy
              refine wpAnyIn_ready (rs := [18]) (by kernel_rfl) (by simp) ?_
              refine AllReadyIn.cons rfl (fun K hK => ?_) (AllReadyIn.nil)
              go_simp
              gi_wp2
              refine hR.mono ?_
              rintro e W3 ⟨b, rfl, hb3⟩
              have HY3 := Aside0.mk hb3
              clear hb3 hR
              go_simp
              refine hK _ _ ?_
              clear hK K
              refine wpAnyIn_take (i := 19) (v := ?_) rfl rfl (by kernel_rfl) (by kernel_rfl) (by kernel_rfl) (fun _ _ _ h => h) ⟨Or.inl ⟨by rfl, ?_⟩, fun _ => rfl⟩ ?_
              rotate_left
              · intro w
                go_simp
                try (with_reducible rfl)
              go_simp
              refine wpAnyIn_take (i := 20) (v := ?_) rfl rfl (by kernel_rfl) (by kernel_rfl) (by kernel_rfl) (fun _ _ _ h => h) ⟨Or.inl ⟨by rfl, ?_⟩, fun _ => rfl⟩ ?_
              rotate_left
              · intro w
                go_simp
                try (with_reducible rfl)
              go_simp
              refine wpAnyIn_done (by kernel_rfl) ?_ _
              go_simp
              have hsz := HB6.out.size
              cases b with
              | true =>
                obtain ⟨hJ3, hB3, hT3⟩ := HY3.out.1 rfl
                have z2 : W3.cell? ⟨wr.heap.size, 2, none⟩ = some (.int .i64 x.f2) := (blk_cell (hT3 _ _ HG6.out) 2).trans rfl
                have HJ3 := Aside0.mk hJ3
                have HB7 := Aside0.mk (HB.out.trans ((HB6.out.mono (by have := HB.out.size; omega)).trans hB3))
                have HS3 := Aside0.mk hB3.size
                clear hJ3 hB3 hT3
                gi_wp2
                go_roundw
                case measure => simp [intOf]; omega
                case rel =>
                  refine ⟨k + 1, wrap64 (at_ + x.f2), _, by omega, rfl, by simp, HJ3.out, ⟨?_⟩, HB7, ⟨by have := HS.out; have := HS3.out; omega⟩⟩
                  rw [← HP.out, List.drop_eq_getElem_cons hlt, HX.out, spansGo_other _ _ _ HPL.out, i64_w, List.append_assoc]
                  rfl
              | false =>
                have HJ3 := Aside0.mk (HY3.out.2 rfl)
                gi_wp2
                refine bodyPost_ret (results_none rfl _ _ _) rfl ?_
                exact ⟨⟨_, rfl⟩, .inr ⟨_, trivial, HJ3.out⟩⟩
            · go_simp
              refine hK _ _ ?_
              clear hK K
              refine wpAnyIn_ready (rs := [9]) (by kernel_rfl) (by simp) ?_
              refine AllReadyIn.cons rfl (fun K hK => ?_) (AllReadyIn.nil)
              go_simp
              refine hK _ _ ?_
              clear hK K
              refine wpAnyIn_take (i := 10) (v := ?_) rfl rfl (by kernel_rfl) (by kernel_rfl) (by kernel_rfl) (fun _ _ _ h => h) ⟨Or.inl ⟨by rfl, ?_⟩, fun _ => rfl⟩ ?_
              rotate_left
              · intro w
                go_simp
                try (with_reducible rfl)
              go_simp
              refine wpAnyIn_take (i := 17) (v := ?_) rfl rfl (by kernel_rfl) (by kernel_rfl) (by kernel_rfl) (fun _ _ _ h => h) ⟨Or.inl ⟨by rfl, ?_⟩, fun _ => rfl⟩ ?_
              rotate_left
              · intro w
                go_simp
                try (with_reducible rfl)
              go_simp
              have hlen : pre.length < N := by
                have h1 := congrArg List.length HP.out
                rw [List.drop_eq_getElem_cons hlt, HX.out, spansGo_other _ _ _ HPL.out, List.length_append, List.length_cons] at h1
                omega
              obtain ⟨fn, tmps, assign, body, hy, hR⟩ := HY.out pre ⟨at_, IntKind.i64.wrap (at_ + x.f2), x.f0, x.f1⟩ w6 (HJ.out pre wr w6 none hJs (below_grown HB6.out) (fun r e => by cases e)) hlen
              dsimp only [encS] at hy
              refine wpAnyIn_ready (rs := [18]) (by kernel_rfl) (by simp) ?_
              refine AllReadyIn.cons rfl (fun K hK => ?_) (AllReadyIn.nil)
              go_simp
              gi_wp2
              refine hR.mono ?_
              rintro e W3 ⟨b, rfl, hb3⟩
              have HY3 := Aside0.mk hb3
              clear hb3 hR
              go_simp
              refine hK _ _ ?_
              clear hK K
              refine wpAnyIn_take (i := 19) (v := ?_) rfl rfl (by kernel_rfl) (by kernel_rfl) (by kernel_rfl) (fun _ _ _ h => h) ⟨Or.inl ⟨by rfl, ?_⟩, fun _ => rfl⟩ ?_
              rotate_left
              · intro w
                go_simp
                try (with_reducible rfl)
              go_simp
              refine wpAnyIn_take (i := 20) (v := ?_) rfl rfl (by kernel_rfl) (by kernel_rfl) (by kernel_rfl) (fun _ _ _ h => h) ⟨Or.inl ⟨by rfl, ?_⟩, fun _ => rfl⟩ ?_
              rotate_left
              · intro w
                go_simp
                try (with_reducible rfl)
              go_simp
              refine wpAnyIn_done (by kernel_rfl) ?_ _
              go_simp
              have hsz := HB6.out.size
              cases b with
              | true =>
                obtain ⟨hJ3, hB3, hT3⟩ := HY3.out.1 rfl
                have z2 : W3.cell? ⟨wr.heap.size, 2, none⟩ = some (.int .i64 x.f2) := (blk_cell (hT3 _ _ HG6.out) 2).trans rfl
                have HJ3 := Aside0.mk hJ3
                have HB7 := Aside0.mk (HB.out.trans ((HB6.out.mono (by have := HB.out.size; omega)).trans hB3))
                have HS3 := Aside0.mk hB3.size
                clear hJ3 hB3 hT3
                gi_wp2
                go_roundw
                case measure => simp [intOf]; omega
                case rel =>
                  refine ⟨k + 1, wrap64 (at_ + x.f2), _, by omega, rfl, by simp, HJ3.out, ⟨?_⟩, HB7, ⟨by have := HS.out; have := HS3.out; omega⟩⟩
                  rw [← HP.out, List.drop_eq_getElem_cons hlt, HX.out, spansGo_other _ _ _ HPL.out, i64_w, List.append_assoc]
                  rfl
              | false =>
                have HJ3 := Aside0.mk (HY3.out.2 rfl)
                gi_wp2
                refine bodyPost_ret (results_none rfl _ _ _) rfl ?_
                exact ⟨⟨_, rfl⟩, .inr ⟨_, trivial, HJ3.out⟩⟩
          · go_simp
            refine hK _ _ ?_
            clear hK K
            refine wpAnyIn_ready (rs := [9, 13]) (by kernel_rfl) (by simp) ?_
            refine AllReadyIn.cons rfl (fun K hK => ?_) (AllReadyIn.cons rfl (fun K hK => ?_) (AllReadyIn.nil))
            · go_simp
              refine hK _ _ ?_
              clear hK K
              refine wpAnyIn_take (i := 10) (v := ?_) rfl rfl (by kernel_rfl) (by kernel_rfl) (by kernel_rfl) (fun _ _ _ h => h) ⟨Or.inl ⟨by rfl, ?_⟩, fun _ => rfl⟩ ?_
              rotate_left
              · intro w
                go_simp
                try (with_reducible rfl)
              go_simp
              refine wpAnyIn_ready (rs := [13]) (by kernel_rfl) (by simp) ?_
              refine AllReadyIn.cons rfl (fun K hK => ?_) (AllReadyIn.nil)
              go_simp
              refine hK _ _ ?_
              clear hK K
              refine wpAnyIn_take (i := 17) (v := ?_) rfl rfl (by kernel_rfl) (by kernel_rfl) (by kernel_rfl) (fun _ _ _ h => h) ⟨Or.inl ⟨by rfl, ?_⟩, fun _ => rfl⟩ ?_
              rotate_left
              · intro w
                go_simp
                try (with_reducible rfl)
              go_simp
              have hlen : pre.length < N := by
                have h1 := congrArg List.length HP.out
                rw [List.drop_eq_getElem_cons hlt, HX.out, spansGo_other _ _ _ HPL.out, List.length_append, List.length_cons] at h1
                omega
              obtain ⟨fn, tmps, assign, body, hy, hR⟩ := HY.out pre ⟨at_, IntKind.i64.wrap (at_ + x.f2), x.f0, x.f1⟩ w6 (HJ.out pre wr w6 none hJs (below_grown HB6.out) (fun r e => by cases e)) hlen
              dsimp only [encS] at hy
              refine wpAnyIn_ready (rs := [18]) (by kernel_rfl) (by simp) ?_
              refine AllReadyIn.cons rfl (fun K hK => ?_) (AllReadyIn.nil)
              go_simp
              gi_wp2
              refine hR.mono ?_
              rintro e W3 ⟨b, rfl, hb3⟩
              have HY3 := Aside0.mk hb3
              clear hb3 hR
              go_simp
              refine hK _ _ ?_
              clear hK K
              refine wpAnyIn_take (i := 19) (v := ?_) rfl rfl (by kernel_rfl) (by kernel_rfl) (by kernel_rfl) (fun _ _ _ h => h) ⟨Or.inl ⟨by rfl, ?_⟩, fun _ => rfl⟩ ?_
              rotate_left
              · intro w
                go_simp
                try (with_reducible rfl)
              go_simp
              refine wpAnyIn_take (i := 20) (v := ?_) rfl rfl (by kernel_rfl) (by kernel_rfl) (by kernel_rfl) (fun _ _ _ h => h) ⟨Or.inl ⟨by rfl, ?_⟩, fun _ => rfl⟩ ?_
              rotate_left
              · intro w
                go_simp
                try (with_reducible rfl)
              go_simp
              refine wpAnyIn_done (by kernel_rfl) ?_ _
              go_simp
              have hsz := HB6.out.size
              cases b with
              | true =>
                obtain ⟨hJ3, hB3, hT3⟩ := HY3.out.1 rfl
                have z2 : W3.cell? ⟨wr.heap.size, 2, none⟩ = some (.int .i64 x.f2) := (blk_cell (hT3 _ _ HG6.out) 2).trans rfl
                have HJ3 := Aside0.mk hJ3
                have HB7 := Aside0.mk (HB.out.trans ((HB6.out.mono (by have := HB.out.size; omega)).trans hB3))
                have HS3 := Aside0.mk hB3.size
                clear hJ3 hB3 hT3
                gi_wp2
                go_roundw
                case measure => simp [intOf]; omega
                case rel =>
                  refine ⟨k + 1, wrap64 (at_ + x.f2), _, by omega, rfl, by simp, HJ3.out, ⟨?_⟩, HB7, ⟨by have := HS.out; have := HS3.out; omega⟩⟩
                  rw [← HP.out, List.drop_eq_getElem_cons hlt, HX.out, spansGo_other _ _ _ HPL.out, i64_w, List.append_assoc]
                  rfl
              | false =>
                have HJ3 := Aside0.mk (HY3.out.2 rfl)
                gi_wp2
                refine bodyPost_ret (results_none rfl _ _ _) rfl ?_
                exact ⟨⟨_, rfl⟩, .inr ⟨_, trivial, HJ3.out⟩⟩
            · go_simp
              refine hK _ _ ?_
              clear hK K
              refine wpAnyIn_ready (rs := [9]) (by kernel_rfl) (by simp) ?_
              refine AllReadyIn.cons rfl (fun K hK => ?_) (AllReadyIn.nil)
              go_simp
              refine hK _ _ ?_
              clear hK K
              refine wpAnyIn_take (i := 10) (v := ?_) rfl rfl (by kernel_rfl) (by kernel_rfl) (by kernel_rfl) (fun _ _ _ h => h) ⟨Or.inl ⟨by rfl, ?_⟩, fun _ => rfl⟩ ?_
              rotate_left
              · intro w
                go_simp
                try (with_reducible rfl)
              go_simp
              refine wpAnyIn_take (i := 17) (v := ?_) rfl rfl (by kernel_rfl) (by kernel_rfl) (by kernel_rfl) (fun _ _ _ h => h) ⟨Or.inl ⟨by rfl, ?_⟩, fun _ => rfl⟩ ?_
              rotate_left
              · intro w
                go_simp
                try (with_reducible rfl)
              go_simp
              have hlen : pre.length < N := by
                have h1 := congrArg List.length HP.out
                rw [List.drop_eq_getElem_cons hlt, HX.out, spansGo_other _ _ _ HPL.out, List.length_append, List.length_cons] at h1
                omega
              obtain ⟨fn, tmps, assign, body, hy, hR⟩ := HY.out pre ⟨at_, IntKind.i64.wrap (at_ + x.f2), x.f0, x.f1⟩ w6 (HJ.out pre wr w6 none hJs (below_grown HB6.out) (fun r e => by cases e)) hlen
              dsimp only [encS] at hy
              refine wpAnyIn_ready (rs := [18]) (by kernel_rfl) (by simp) ?_
              refine AllReadyIn.cons rfl (fun K hK => ?_) (AllReadyIn.nil)
              go_simp
              gi_wp2
              refine hR.mono ?_
              rintro e W3 ⟨b, rfl, hb3⟩
              have HY3 := Aside0.mk hb3
              clear hb3 hR
              go_simp
              refine hK _ _ ?_
              clear hK K
              refine wpAnyIn_take (i := 19) (v := ?_) rfl rfl (by kernel_rfl) (by kernel_rfl) (by kernel_rfl) (fun _ _ _ h => h) ⟨Or.inl ⟨by rfl, ?_⟩, fun _ => rfl⟩ ?_
              rotate_left
              · intro w
                go_simp
                try (with_reducible rfl)
              go_simp
              refine wpAnyIn_take (i := 20) (v := ?_) rfl rfl (by kernel_rfl) (by kernel_rfl) (by kernel_rfl) (fun _ _ _ h => h) ⟨Or.inl ⟨by rfl, ?_⟩, fun _ => rfl⟩ ?_
              rotate_left
              · intro w
                go_simp
                try (with_reducible rfl)
              go_simp
              refine wpAnyIn_done (by kernel_rfl) ?_ _
              go_simp
              have hsz := HB6.out.size
              cases b with
              | true =>
                obtain ⟨hJ3, hB3, hT3⟩ := HY3.out.1 rfl
                have z2 : W3.cell? ⟨wr.heap.size, 2, none⟩ = some (.int .i64 x.f2) := (blk_cell (hT3 _ _ HG6.out) 2).trans rfl
                have HJ3 := Aside0.mk hJ3
                have HB7 := Aside0.mk (HB.out.trans ((HB6.out.mono (by have := HB.out.size; omega)).trans hB3))
                have HS3 := Aside0.mk hB3.size
                clear hJ3 hB3 hT3
                gi_wp2
                go_roundw
                case measure => simp [intOf]; omega
                case rel =>
                  refine ⟨k + 1, wrap64 (at_ + x.f2), _, by omega, rfl, by simp, HJ3.out, ⟨?_⟩, HB7, ⟨by have := HS.out; have := HS3.out; omega⟩⟩
                  rw [← HP.out, List.drop_eq_getElem_cons hlt, HX.out, spansGo_other _ _ _ HPL.out, i64_w, List.append_assoc]
                  rfl
              | false =>
                have HJ3 := Aside0.mk (HY3.out.2 rfl)
                gi_wp2
                refine bodyPost_ret (results_none rfl _ _ _) rfl ?_
                exact ⟨⟨_, rfl⟩, .inr ⟨_, trivial, HJ3.out⟩⟩
    · obtain rfl : k = xs.length := by omega
      gi_wp2
      go_end0
      refine ⟨⟨_, rfl⟩, .inl ⟨_, ?_, hJs⟩⟩
      have := HP.out
      rw [List.drop_length] at this
      simpa [spansGo] using this
def cellsS (s : S50) : List Value := [.int .i64 s.f0, .int .i64 s.f1, .int .i64 s.f2, .int .i64 s.f3]
def flatS (l : List S50) : List Value := l.flatMap cellsS
theorem flatS_snoc (l : List S50) (x : S50) : flatS (l ++ [x]) = flatS l ++ cellsS x := by simp [flatS]
theorem cells_new (w : World) (cs : List Value) (t : TypeId) : ∀ j u, cs[j]? = some u → (w.alloc (.cells cs.toArray t)).cell? ((⟨w.heap.size, 0, none⟩ : Addr).add j) = some u := by
  intro j u hj
  have e : (⟨w.heap.size, 0, none⟩ : Addr).add j = ⟨w.heap.size, j, none⟩ := by unfold Addr.add; split <;> simp_all
  rw [e]
  exact (blk_cell (blk_new w (.cells cs.toArray t)) j).trans (by simpa using hj)
theorem Kt.refl (W : World) : Kt W W := fun _ _ h => h
theorem Kt.trans {A B C : World} (h : Kt A B) (k : Kt B C) : Kt A C := fun i cs hi => k i cs (h i cs hi)
theorem Kt.below {W W' : World} (h : Below W.heap.size W W') : Kt W W' := fun k cs hk => (h.block k (blk_lt hk)).trans hk
theorem KpS.trans {n0 : Nat} {A B C : World} (h : KpS n0 A B) (k : KpS n0 B C) : KpS n0 A C := ⟨h.1.trans k.1, h.2.trans k.2⟩
theorem KpS.put {n0 : Nat} {w : World} (hn : n0 ≤ w.heap.size) (W : World) (l : Nat) (o o' : Obj) (hl : w.heap.size ≤ l) (h : W.heap[l]? = some o) (hc : o.isCells = false) (hw : o.isWalk = false) : KpS n0 W (W.putObj l o') := by
  refine ⟨belowK_b hn W l o o' hl h hc hw, fun k cs hk => ?_⟩
  by_cases e : k = l
  · subst e
    rw [h] at hk
    cases hk
    cases hc
  · exact (World.putObj_heap_other e).trans hk
theorem Kt.appended {W w1 : World} {n₀ B : Nat} {v v' : Value} {k : Nat} {xs : List Value} {tmp : Obj} (hv : Boxed W B 38 v) (hrow : W.ownsRow n₀ 50 4 v k xs) (hgrow : (W.alloc tmp).grownBy w1 v.ownBlock) :
    Kt W (w1.setCell ⟨B, 0, none⟩ v') := by
  intro j cs hj
  have hne : j ≠ B := by
    intro e
    subst e
    have := (show W.heap[j]? = _ from hv).symm.trans hj
    simp at this
  refine (Below.heap_setCell _ _ _ j hne).trans ?_
  refine (hgrow.block j (by have := blk_lt hj; simp; omega) ?_).trans ((Below.heap_alloc _ _ j (blk_lt hj)).trans hj)
  intro e
  obtain ⟨cells, hc⟩ := own_typed hrow j e.symm
  rw [hc] at hj
  simp at hj
theorem yields_stops (n : Nat) (hn : 1 ≤ n) (Bs cap : Nat) (A : Option Addr) (xs : List S108) (w : World) (hBs : w.cell? ⟨Bs, 0, none⟩ = some (.slice A xs.length cap)) (hC : Kd.C k108 w A xs.length xs) :
    SeqStopsK Fence.wide n Try.prog 123 #[.pointer (some ⟨Bs, 0, none⟩)] (fun x : S50 => #[encS x]) (KpS w.heap.size) (fun ys => ys = spansGo xs 0) (fun _ => True) (spansGo xs 0).length w := fun l J Jx W hW hJ _ hY h0 =>
  yields_in n hn l Bs cap A xs w J Jx _ hY (Nat.le_refl _) hBs hC W hW hJ h0
/-- the loop variable's block -/
def VarAt (w0 : World) (Bs : Nat) (x : S50) (a' : Act) (W : World) : Prop := ∃ Bx, w0.heap.size < Bx ∧ W.heap[Bx]? = some (.cells #[.int .i64 x.f0, .int .i64 x.f1, .int .i64 x.f2, .int .i64 x.f3] 50 (0, 0)) ∧ a' = { tmps := #[.slice none 0 0, .func (.func 123) #[] #[.pointer (some ⟨Bs, 0, none⟩)], .pointer (some ⟨w0.heap.size, 0, none⟩), undef, .slice none 0 0, .pointer (some ⟨Bx, 0, none⟩), .func (.func 123) #[] #[.pointer (some ⟨Bs, 0, none⟩)], .agg #[.int .i64 x.f0, .int .i64 x.f1, .int .i64 x.f2, .int .i64 x.f3], undef, undef, undef, undef, undef], defers := [] }
set_option maxRecDepth 100000 in
set_option maxHeartbeats 4000000 in
theorem appendSeq_in (n : Nat) (hn : 2 ≤ n) (Bs cap : Nat) (A : Option Addr) (xs : List S108) (w : World) (hlen : (spansGo xs 0).length ≤ 1000000) (hBs : w.cell? ⟨Bs, 0, none⟩ = some (.slice A xs.length cap)) (hC : Kd.C k108 w A xs.length xs) :
    CallsIn Fence.wide n Try.prog 122 #[.slice none 0 0, .func (.func 123) #[] #[.pointer (some ⟨Bs, 0, none⟩)]] w fun e w' => ∃ v, e = .returned v ∧ w'.ownsRow w.heap.size 50 4 v (spansGo xs 0).length (flatS (spansGo xs 0)) ∧ Below w.heap.size w w' := by
  have h1 : 1 ≤ n := by omega
  obtain ⟨i0, hi, hz0, hz1, hz2⟩ := info_parts info50
  have hu38 := Try.underlying38
  have hu50 := Try.underlying50
  have henc : ∀ s : S50, encS s = .agg #[.int .i64 s.f0, .int .i64 s.f1, .int .i64 s.f2, .int .i64 s.f3] := fun _ => rfl
  have HS := yields_stops (n - 1) (by omega) Bs cap A xs w hBs hC
  have HL := Aside0.mk hlen
  clear hC hBs hlen
  generalize hys : spansGo xs 0 = ys at HS HL ⊢
  refine callsIn_of_wp_marks Try.func122 rfl trivial ?_ rfl
  simp only [Try.ntmps122, List.size_toArray, List.length_cons, List.length_nil, Nat.reduceAdd, Nat.reduceSub, Array.replicate_succ, Array.replicate_zero, List.push_toArray, List.append_toArray, List.nil_append, List.cons_append]
  gi_wp2
  have bO := Boxed.new w 38 (.slice none 0 0)
  have hB0 : Below w.heap.size w (w.alloc (.cells #[.slice none 0 0] 38)) := (Below.refl _ w).alloc (Nat.le_refl _) _
  obtain ⟨W0, hW0⟩ : ∃ W0, w.alloc (.cells #[.slice none 0 0] 38) = W0 := ⟨_, rfl⟩
  have hsz : W0.heap.size = w.heap.size + 1 := by rw [← hW0]; simp
  rw [hW0] at bO hB0 ⊢
  clear hW0
  refine wpIn_rangeFunc_ownH rfl h1 (gf := 123) (lb := #[.pointer (some ⟨Bs, 0, none⟩)]) rfl trivial (enters_of Try.func123 (by kernel_rfl) rfl) HS KpS.trans (KpS.put (by omega)) hB0 (fun _ => rfl)
    (fun pre W => (∃ v, Boxed W w.heap.size 38 v ∧ W.ownsRow w.heap.size 50 4 v pre.length (flatS pre) ∧ True) ∧ Below w.heap.size w W)
    (fun _ _ _ => False)
    (OwnFrom.and (Own.from (holdsRow_own w.heap.size w.heap.size 38 50 4 (fun pre : List S50 => pre.length) flatS (fun _ _ => True)) _) (ownFrom_below (Nat.le_refl _) (by omega)))
    (fun _ _ _ _ _ hs _ _ => hs)
    ⟨⟨_, bO, World.ownsRow_nil _ _ _ _, trivial⟩, hB0⟩
    (VarAt w Bs) ?hAx ?assign ?body ?done ?stop
  case hAx =>
    rintro x a' s X Y row ⟨Bx, h1, h2, h3⟩ hg hr
    refine ⟨Bx, h1, (hg.block Bx (blk_lt h2) ?_).trans h2, h3⟩
    intro e
    obtain ⟨_, o, ho, hc⟩ := hr Bx e.symm
    rw [h2] at ho
    cases ho
    cases hc
  case assign =>
    rintro l pre x W K ⟨⟨v, hv, hrow, ht⟩, hB⟩ hK
    gi_wp2
    have hlt := hv.lt
    refine hK _ _ ((KeepsOthers.alloc _ _).from _) ⟨(Below.refl _ W).alloc hB.size _, Kt.below ((Below.refl _ W).alloc (Nat.le_refl _) _)⟩ ⟨⟨v, hv.alloc _, hrow.alloc _, trivial⟩, hB.alloc hB.size _⟩ ⟨W.heap.size, hlt, blk_new _ _, rfl⟩
  case body =>
    rintro l pre x a' W hl - ⟨⟨v, hv, hrow, ht⟩, hB⟩ ⟨Bx, hBx, hX, rfl⟩ hlt
    have hc := hv.cell
    have x0 := (blk_cell hX 0).trans rfl
    have x1 := (blk_cell hX 1).trans rfl
    have x2 := (blk_cell hX 2).trans rfl
    have x3 := (blk_cell hX 3).trans rfl
    have hl3 := HL.out
    have hmx : maxLen = 9223372036854775807 := rfl
    gi_wp2_with (gi_at_builtin; refine wpListIn_append_own _ rfl _ _ 38 rfl w.heap.size 50 i0 (.agg #[(.int .i64 0), (.int .i64 0), (.int .i64 0), (.int .i64 0)]) 4 32 Try.underlying38 hi hz0 hz1 hz2 rfl (by decide) _ _ _ rfl (hrow.alloc _) ⟨W.heap.size, 0, none⟩ 1 1 (cellsS x) rfl rfl (cells_new W (cellsS x) 50) (by intro u hu; simp [cellsS] at hu; rcases hu with rfl | rfl | rfl | rfl <;> rfl) (by rw [hmx]; omega) (by omega) (by have := hB.size; simp; omega) ?_; intro v' w1 hown' hgrow _; obtain ⟨g', cap', rfl⟩ := ownsRow_succ hown'; have hkt := Kt.appended (v' := .slice (some ⟨g', 0, none⟩) (pre.length + 1) cap') hv hrow hgrow; obtain ⟨hv1, hv2, hr2, hk2, hb2⟩ := hv.appended (by decide) hrow hB.size (Nat.le_refl _) hown' hgrow; have hc1 := hv1.cell; have hf1 := hv1.frozen)
    exact ⟨hk2.from _, ⟨hb2, hkt⟩, ⟨_, hv2, by rw [flatS_snoc, List.length_append]; exact hr2, trivial⟩, hB.trans hb2⟩
  case done =>
    rintro D zs W hD rfl ⟨⟨v, hv, hrow, ht⟩, hB⟩ hK
    have hc := hv.cell
    gi_wp2
    refine ⟨by simp, .inl ⟨_, _, rfl, run_takeDeferred hK, ?_⟩⟩
    exact ⟨_, results_tmp rfl _ _ _, v, rfl, ownsRow_putObj hrow _ hK rfl, hB.trans (belowK_b (w := w) (Nat.le_refl _) W D _ _ (by omega) hK rfl rfl)⟩
  case stop =>
    rintro D c pre W _ _ h _
    exact h.elim
set_option maxHeartbeats 2000000 in
theorem collect_in (n : Nat) (hn : 3 ≤ n) (Bs cap : Nat) (A : Option Addr) (xs : List S108) (w : World) (hlen : (spansGo xs 0).length ≤ 1000000) (hBs : w.cell? ⟨Bs, 0, none⟩ = some (.slice A xs.length cap)) (hC : Kd.C k108 w A xs.length xs) :
    CallsIn Fence.wide n Try.prog 106 #[.func (.func 123) #[] #[.pointer (some ⟨Bs, 0, none⟩)]] w fun e w' => ∃ v, e = .returned v ∧ w'.ownsRow w.heap.size 50 4 v (spansGo xs 0).length (flatS (spansGo xs 0)) ∧ Below w.heap.size w w' := by
  have h1 : 1 ≤ n := by omega
  have HS := Aside0.mk (appendSeq_in (n - 1) (by omega) Bs cap A xs w hlen hBs hC)
  clear hBs hC hlen
  refine callsIn_of_wp Try.func106 rfl trivial ?_ rfl
  simp only [Try.ntmps106, List.size_toArray, List.length_cons, List.length_nil, Nat.reduceAdd, Nat.reduceSub, Array.replicate_succ, Array.replicate_zero, List.push_toArray, List.append_toArray, List.nil_append, List.cons_append]
  gi_wp2_with (refine ⟨trivial, ?_⟩; gi_at_call 122; refine HS.out.mono ?_; rintro e w' ⟨v, rfl, hrow, hb⟩)
  go_ret
  exact ⟨v, rfl, hrow, hb⟩
theorem reps_flatS (w : World) (base : Nat) (ok : Nat → Prop) : ∀ (l : List S50), Reps (k50.M w base ok) 4 l (flatS l)
  | [] => Reps.none _ _
  | x :: l => Reps.c4 (k50_mkM w base ok x) (reps_flatS w base ok l)
theorem R_of_flat {w : World} {base : Nat} {v : Value} {l : List S50} (h : w.ownsRow base 50 4 v l.length (flatS l)) : Kd.R k50 50 w base (fun _ => True) v l :=
  ⟨fun _ _ => trivial, flatS l, h, reps_flatS _ _ _ l⟩
set_option maxHeartbeats 2000000 in
/-- (looks).plain: the spans of the stretches, in memory of the call's own. -/
theorem plain_calls (cap : Nat) (A : Option Addr) (xs : List S108) (w : World) (hlen : (spansGo xs 0).length ≤ 1000000) (hC : Kd.C k108 w A xs.length xs) :
    Calls Try.prog 72 #[.slice A xs.length cap] w fun e w' => ∃ v, e = .returned v ∧ Kd.R k50 50 w' w.heap.size (fun _ => True) v (spansGo xs 0) ∧ Below w.heap.size w w' := by
  refine (callsIn_wide (n := 9)).1 ?_
  have HL := Aside0.mk hlen
  have hb0 : Below w.heap.size w (w.alloc (.cells #[.slice A xs.length cap] 78)) := (Below.refl _ w).alloc (Nat.le_refl _) _
  have HS := Aside0.mk (collect_in 8 (by omega) w.heap.size cap A xs (w.alloc (.cells #[.slice A xs.length cap] 78)) hlen (by rw [blk_cell (blk_new _ _) 0]; rfl) (Kd.C_below hC hb0))
  have HB := Aside0.mk hb0
  clear hC hlen hb0
  refine callsIn_of_wp Try.func72 rfl trivial ?_ rfl
  simp only [Try.ntmps72, List.size_toArray, List.length_cons, List.length_nil, Nat.reduceAdd, Nat.reduceSub, Array.replicate_succ, Array.replicate_zero, List.push_toArray, List.append_toArray, List.nil_append, List.cons_append]
  gi_wp2_with (first | (refine ⟨trivial, ?_⟩; gi_at_call 107; refine (spans_in Fence.wide _ trivial rfl A xs.length cap w).mono ?_; rintro e w' ⟨rfl, rfl⟩) | (refine ⟨trivial, ?_⟩; gi_at_call 106; refine HS.out.mono ?_; rintro e w' ⟨v, rfl, hrow, hb⟩; have HR := Aside0.mk hrow; have HB2 := Aside0.mk hb; clear hrow hb))
  go_ret
  refine ⟨v, rfl, R_of_flat ?_, below_step HB.out HB2.out⟩
  exact own_weaken HR.out (by simp)
end
theorem spansGo_len : ∀ (l : List S108) (a : Int), (spansGo l a).length ≤ l.length
  | [], a => Nat.le_refl _
  | x :: l, a => by
    unfold spansGo
    have := spansGo_len l (wrap64 (a + x.f2))
    split
    · simp; omega
    · simp; omega
theorem looksL_len (l : List S50) (n : Int) : (looksL l n).length ≤ 2 * l.length + 1 := by
  have h1 := looksGo_len l [] 0
  have h2 := addS_len (looksGo l [] 0).1 10 0 (wrap64 (n - (looksGo l [] 0).2))
  simp at h1
  unfold looksL
  omega


end Go.Proofs.Ytkapjhlcmicpnaa.PFnExactSpansPut
