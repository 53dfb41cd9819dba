-- Written by a program of this session (wip/tools) out of the translation; its shape is that of the kit print.
import Derived.Test.YtkapjhlcmicpnaaPFnLevelBasex0
import Derived.Test.YtkapjhlcmicpnaaPFnLevelBasex3
namespace Go.Proofs.Ytkapjhlcmicpnaa.PFnLevelBase
open Go.RowKit Go.Proofs.YtkapjhlcmicpnaaW.PrintWords Go.Proofs.YtkapjhlcmicpnaaW.PrintLast Go.Proofs.YtkapjhlcmicpnaaW.PrintMore
attribute [local go_sem] max2_int min2_int max_two min_two max_three min_three max_four min_four   -- for this text's walks alone
set_option linter.unusedVariables false
set_option linter.unusedSimpArgs false

/-- a letter's class -/
def bdF (x : Int) : Int := (impl_RuneBidi.f x).getD 0
theorem bdF_eq {x : Int} (h : (impl_RuneBidi.f x).isSome = true) : impl_RuneBidi.f x = some (bdF x) := by
  unfold bdF
  cases hx : impl_RuneBidi.f x with
  | none => rw [hx] at h; cases h
  | some r => rfl
def opn (c : Int) : Bool := c == 19 || (c == 20 || c == 21)
theorem opens_eq (c : Int) : impl_opens.f c = some (opn c) := by
  unfold impl_opens.f opn
  by_cases h1 : c = 19
  · simp [h1]
  · by_cases h2 : c = 20
    · simp [h2]
    · simp only [h1, h2, if_false, Option.some.injEq]
      have g1 : (c == 19) = false := beq_eq_false_iff_ne.2 h1
      have g2 : (c == 20) = false := beq_eq_false_iff_ne.2 h2
      rw [g1, g2]
      rfl
/-- the map of mates, as the program makes it -/
def mtRun : List Int → Nat → List Nat → (Nat → Option Nat) → (Nat → Option Nat)
  | [], _, _, M => M
  | c :: r, p, st, M => if opn c then mtRun r (p + 1) (p :: st) M else if c = 22 then (match st with
      | [] => mtRun r (p + 1) [] M
      | a :: st => mtRun r (p + 1) st (fun k => if k = a then some p else M k)) else mtRun r (p + 1) st M
def sideF (cls : List Int) (M : Nat → Option Nat) : Nat → Nat → Option Int
  | 0, _ => none
  | f + 1, k => if k < cls.length then (if cls.getD k 0 = 1 then some 0 else if cls.getD k 0 = 2 then some 1 else if cls.getD k 0 = 3 then some 1 else if opn (cls.getD k 0) = true then (match M k with
      | none => some 0
      | some v => sideF cls M f (v + 1)) else sideF cls M f (k + 1)) else some 0
theorem sideF_mono (cls : List Int) (M : Nat → Option Nat) : ∀ (f k : Nat), LeO (sideF cls M f k) (sideF cls M (f + 1) k)
  | 0, k => fun r h => by simp [sideF] at h
  | f + 1, k => by
    intro r h
    unfold sideF at h ⊢
    split at h
    · rename_i hk
      rw [if_pos hk]
      split at h
      · rename_i h1; rw [if_pos h1]; exact h
      · rename_i h1
        rw [if_neg h1]
        split at h
        · rename_i h2; rw [if_pos h2]; exact h
        · rename_i h2
          rw [if_neg h2]
          split at h
          · rename_i h3; rw [if_pos h3]; exact h
          · rename_i h3
            rw [if_neg h3]
            split at h
            · rename_i h4
              rw [if_pos h4]
              cases hM : M k with
              | none => rw [hM] at h; exact h
              | some v => rw [hM] at h; exact sideF_mono cls M f (v + 1) r h
            · rename_i h4
              rw [if_neg h4]
              exact sideF_mono cls M f (k + 1) r h
    · rename_i hk
      rw [if_neg hk]
      exact h
/-- a map from places to places -/
def MapIs (D : DataW Unit) (M : Nat → Option Nat) : Prop := Maps.IsMap D ∧ ∀ k : Nat, Maps.has D (.int .i64 (k : Int)) = (M k).isSome ∧ ∀ v, M k = some v → D.atKey (.int .i64 (k : Int)) (.lit (.int .i64 0)) = .lit (.int .i64 (v : Int))
theorem MapIs.empty : MapIs (.map []) (fun _ => none) := ⟨Maps.isMap_empty, fun k => ⟨rfl, fun v h => by cases h⟩⟩
theorem MapIs.put {D : DataW Unit} {M : Nat → Option Nat} (h : MapIs D M) (a p : Nat) : MapIs (D.put (.int .i64 (a : Int)) (.lit (.int .i64 (p : Int)))) (fun k => if k = a then some p else M k) := by
  refine ⟨h.1.put _ _, fun k => ?_⟩
  have hk : WideAt.IsKeyLit (.int .i64 (a : Int)) := trivial
  by_cases e : k = a
  · subst e
    simp only [if_true]
    rw [Maps.has_put_same h.1 hk, Maps.atKey_put_same h.1 hk]
    exact ⟨rfl, fun v hv => by injection hv with hv; rw [hv]⟩
  · have hne : (Lit.int .i64 (k : Int)) ≠ .int .i64 (a : Int) := fun g => by injection g with g1 g2; omega
    simp only [if_neg e]
    rw [Maps.has_put_other hne, Maps.atKey_put_other hne]
    exact h.2 k
def impl_LevelBase.f (k : Nat) (l0 : List Int) : Option Int :=
  (impl_lettersOk.f l0).bind fun t => if t = true then (if l0.length ≤ 1000 ∧ (l0.all fun x => (impl_RuneBidi.f x).isSome) = true then sideF (l0.map bdF) (mtRun (l0.map bdF) 0 [] fun _ => none) k 0 else none) else some 0
theorem impl_LevelBase.mono : ∀ a0 k, LeO (impl_LevelBase.f k a0) (impl_LevelBase.f (k + 1) a0) := by
  intro a0 k
  unfold impl_LevelBase.f
  repeat' first
      | (with_reducible exact sideF_mono _ _ _ _)
      | (with_reducible exact LeO.refl _)
      | (with_reducible refine LeO.ite ?_ ?_)
      | (with_reducible refine LeO.bind ?_ (fun _ => ?_))
theorem law3 : Go.Maps.Keyed Try.prog 3 := Go.Maps.int_keyed Try.underlying3
/-- what a map block holds -/
def MapAt (W : World) (b n : Nat) (D : DataW Unit) : Prop := W.ownsMap Try.prog 3 (plainElem (H := Unit) Try.prog 3) b n D
theorem MapAt.same {W W' : World} {b n : Nat} {D : DataW Unit} (h : MapAt W b n D) (e : W'.heap[b]? = W.heap[b]?) : MapAt W' b n D := by
  obtain ⟨es, clock, hb, F, hs, hD⟩ := h
  exact ⟨es, clock, e.trans hb, F, hs, hD⟩
theorem zero3 (u : World) : (zeroValue 3).run Try.prog u = .ok (.int .i64 0) u := by kernel_rfl
open Go.ChangeMaps Go.WideElems Go.MapKept in
/-- an entry of a map is made (or found), then written: as 'm[k] = v' -/
theorem entry_store {w : World} {b n : Nat} {D : DataW Unit} (h : MapAt w b n D) (hn : n < maxLen) (a v : Int) (wa : (Lit.int .i64 a).wf = true) (wv : (Lit.int .i64 v).wf = true) :
    ∃ (v0 : Value) (st : Int) (o1 o2 : Obj), (Instr.mapEntry 96 (.map (some b)) (.int .i64 a)).run Try.prog w = .ok (.tuple #[v0, .int .i64 st]) (setBlock w b o1) ∧
      (∀ w2 : World, w2.heap[b]? = some o1 → (Instr.entryStore 96 (.map (some b)) (.int .i64 st) (.int .i64 v)).run Try.prog w2 = .ok () (setBlock w2 b o2)) ∧
      (∀ w2 : World, w2.heap[b]? = some o2 → MapAt w2 b (n + 1) (D.put (.int .i64 a) (.lit (.int .i64 v)))) := by
  have hkey := Go.Maps.keyOf_int_mk Try.underlying3 wa
  obtain ⟨w', hrun, hown', _⟩ := World.ownsMap.update h law3 Try.underlying96 hn hkey (plainElem_int Try.underlying3 wv)
  obtain ⟨es, clock, hb, F, hs, hD⟩ := h
  obtain ⟨s1, s2, _⟩ := F.stamped
  have fin : ∀ (es' : Array MapEntry) (clock' : Nat), (Instr.mapUpdate 96 (.map (some b)) (.int .i64 a) (.int .i64 v)).run Try.prog w = .ok () (setBlock w b (.map es' clock')) → ∀ w2 : World, w2.heap[b]? = some (.map es' clock') → MapAt w2 b (n + 1) (D.put (.int .i64 a) (.lit (.int .i64 v))) := by
    intro es' clock' hr w2 hw2
    rw [hrun] at hr
    injection hr with _ hr
    have hh : w'.heap[b]? = some (.map es' clock') := by rw [hr]; exact heap_setBlock_same hb _
    exact MapAt.same hown' (hw2.trans hh.symm)
  rcases law3.find w hkey es.toList F.keys with ⟨h1, h2⟩ | ⟨j, e0, h1, h2, h3⟩
  · refine ⟨.int .i64 0, (clock : Int), .map (es.push ⟨.int .i64 a, .int .i64 0, clock⟩) (clock + 1), .map (es.push ⟨.int .i64 a, .int .i64 v, clock⟩) (clock + 1), ?_, ?_, ?_⟩
    · simp [Instr.mapEntry, run_underlying Try.underlying96, MapKept.run_getObj_map hb, law3.check w false hkey, h1, zero3, MapKept.run_setObj_map _ hb, Result.andThen, setBlock, goInt]
    · intro w2 hw2
      have hidx : (es.push ⟨.int .i64 a, .int .i64 0, clock⟩).findIdx? (fun e => ((e.born : Nat) : Int) == ((clock : Nat) : Int)) = some es.size := by
        rw [WideElems.findIdx_arr]
        refine WideElems.findIdx_born (l := (es.push ⟨.int .i64 a, .int .i64 0, clock⟩).toList) (j := es.size) (e0 := ⟨.int .i64 a, .int .i64 0, clock⟩) ?_ (by simp)
        rw [Array.toList_push, List.map_append]
        refine List.nodup_append.2 ⟨s2, by simp, fun x hx y hy e => ?_⟩
        obtain ⟨z, hz, rfl⟩ := List.mem_map.1 hx
        have := s1 z hz
        simp at hy
        omega
      have hmod : (es.push ⟨.int .i64 a, .int .i64 0, clock⟩).modify es.size (fun e => { e with val := .int .i64 v }) = es.push ⟨.int .i64 a, .int .i64 v, clock⟩ := by
        apply Array.ext'
        rw [Array.toList_modify, Array.toList_push, Array.toList_push, ← Array.length_toList, WideElems.modify_last]
      simp [Instr.entryStore, MapKept.run_getObj_map hw2, asInt, asIntOf, hidx, hmod, MapKept.run_setObj_map _ hw2, Result.andThen, setBlock]
    · refine fin _ _ ?_
      simp [Instr.mapUpdate, run_underlying Try.underlying96, MapKept.run_getObj_map hb, law3.check w false hkey, h1, MapKept.run_setObj_map _ hb, Result.andThen, setBlock]
  · have hj : es[j]? = some e0 := by simpa using h2
    have hsame : es.modify j (fun e => { e with key := .int .i64 a }) = es := by
      apply Array.ext'
      rw [Array.toList_modify, modify_eq_set _ _ _ _ h2]
      exact WideElems.set_self _ _ _ (by rw [h2, ← h3])
    refine ⟨e0.val, (e0.born : Int), .map es clock, .map (es.modify j (fun e' => { e' with key := .int .i64 a, val := .int .i64 v })) clock, ?_, ?_, ?_⟩
    · simp [Instr.mapEntry, run_underlying Try.underlying96, MapKept.run_getObj_map hb, law3.check w false hkey, h1, hj, h3, law3.stays w hkey, hsame, MapKept.run_setObj_map _ hb, Result.andThen, setBlock, goInt]
    · intro w2 hw2
      have hidx : es.findIdx? (fun e => ((e.born : Nat) : Int) == ((e0.born : Nat) : Int)) = some j := by
        rw [WideElems.findIdx_arr]
        exact WideElems.findIdx_born s2 h2
      have hmod : es.modify j (fun e => { e with val := .int .i64 v }) = es.modify j (fun e' => { e' with key := .int .i64 a, val := .int .i64 v }) := by
        apply Array.ext'
        rw [Array.toList_modify, Array.toList_modify, modify_eq_set _ _ _ _ h2, modify_eq_set _ _ _ _ h2, ← h3]
      simp [Instr.entryStore, MapKept.run_getObj_map hw2, asInt, asIntOf, hidx, hmod, MapKept.run_setObj_map _ hw2, Result.andThen, setBlock]
    · refine fin _ _ ?_
      simp [Instr.mapUpdate, run_underlying Try.underlying96, MapKept.run_getObj_map hb, law3.check w false hkey, h1, hj, h3, law3.stays w hkey, MapKept.run_setObj_map _ hb, Result.andThen, setBlock]
theorem infoI : (Try.prog.info? 3).map (fun i => (i.zero, i.size, i.bytes)) = some (some (.int .i64 0), 1, 8) := by kernel_rfl
/-- a paragraph while it is made: the classes of i letters, what is open, the mates -/
structure PAt (nb n0 b1 b2 g : Nat) (A0 : Option Addr) (c0 : Nat) (l0 : List Int) (i : Nat) (vo : Value) (st : List Nat) (M : Nat → Option Nat) (W : World) : Prop where
  cls : ∃ Ac cc, W.heap[g]? = some (.cells #[.slice A0 l0.length c0, .slice Ac i cc, .map (some b1), .map (some b2)] 98 (0, 0)) ∧ Kd.R (Kd.int .i64) 3 W n0 (fun k => True ∧ some k ≠ vo.ownBlock) (.slice Ac i cc) ((l0.take i).map bdF) ∧
    Kd.R (Kd.int .i64) 3 W n0 (fun k => True ∧ some k ≠ (Value.slice Ac i cc).ownBlock) vo (st.reverse.map fun x : Nat => (x : Int))
  m1 : ∃ D n, n ≤ nb ∧ MapAt W b1 n D ∧ MapIs D M
  m2 : ∃ D n, n ≤ nb ∧ MapAt W b2 n D
theorem MapAt.lt {W : World} {b n : Nat} {D : DataW Unit} (h : MapAt W b n D) : b < W.heap.size := World.ownsMap.lt h
theorem MapAt.ne {W : World} {b n n0 : Nat} {D : DataW Unit} {ok : Nat → Prop} {v : Value} {xs : List Int} (h : MapAt W b n D) (hr : Kd.R (Kd.int .i64) 3 W n0 ok v xs) : some b ≠ v.ownBlock := by
  intro e
  obtain ⟨inner, ho⟩ := Kd.R_own hr
  obtain ⟨cells, hc⟩ := own_typed ho b e.symm
  obtain ⟨es, clock, hb, _⟩ := h
  rw [hc] at hb
  cases hb
theorem MapAt.cell_ne {W : World} {b n g t : Nat} {D : DataW Unit} {cs : Array Value} (h : MapAt W b n D) (hg : W.heap[g]? = some (.cells cs t (0, 0))) : b ≠ g := by
  intro e
  subst e
  obtain ⟨es, clock, hb, _⟩ := h
  rw [hg] at hb
  cases hb
theorem PAt.below {nb n0 b1 b2 g : Nat} {A0 : Option Addr} {c0 : Nat} {l0 : List Int} {i : Nat} {vo : Value} {st : List Nat} {M : Nat → Option Nat} {W W' : World} (h : PAt nb n0 b1 b2 g A0 c0 l0 i vo st M W) (hb : Below W.heap.size W W') : PAt nb n0 b1 b2 g A0 c0 l0 i vo st M W' := by
  obtain ⟨⟨Ac, cc, hg, hc, ho⟩, ⟨D1, n1, hn1, hm1, hd1⟩, ⟨D2, n2, hn2, hm2⟩⟩ := h
  exact ⟨⟨Ac, cc, (hb.block g (blk_lt hg)).trans hg, Kd.R_below hc hb, Kd.R_below ho hb⟩, ⟨D1, n1, hn1, hm1.same (hb.block b1 hm1.lt), hd1⟩, ⟨D2, n2, hn2, hm2.same (hb.block b2 hm2.lt)⟩⟩
theorem PAt.more {nb n0 b1 b2 g : Nat} {A0 : Option Addr} {c0 : Nat} {l0 : List Int} {i : Nat} {vo : Value} {st : List Nat} {M : Nat → Option Nat} {W : World} (h : PAt nb n0 b1 b2 g A0 c0 l0 i vo st M W) : PAt (nb + 1) n0 b1 b2 g A0 c0 l0 i vo st M W := by
  obtain ⟨hc, ⟨D1, n1, hn1, hm1, hd1⟩, ⟨D2, n2, hn2, hm2⟩⟩ := h
  exact ⟨hc, ⟨D1, n1, by omega, hm1, hd1⟩, ⟨D2, n2, by omega, hm2⟩⟩
/-- a letter's class has been added -/
theorem PAt.class {nb n0 b1 b2 g : Nat} {A0 : Option Addr} {c0 : Nat} {l0 : List Int} {i : Nat} {vo v1 : Value} {st : List Nat} {M : Nat → Option Nat} {W w1 : World} {Ac : Option Addr} {cc : Nat} (hi : i < l0.length)
    (hg : W.heap[g]? = some (.cells #[.slice A0 l0.length c0, .slice Ac i cc, .map (some b1), .map (some b2)] 98 (0, 0)))
    (ho : Kd.R (Kd.int .i64) 3 W n0 (fun k => True ∧ some k ≠ (Value.slice Ac i cc).ownBlock) vo (st.reverse.map fun x : Nat => (x : Int))) (hc : Kd.R (Kd.int .i64) 3 W n0 (fun k => True ∧ some k ≠ vo.ownBlock) (.slice Ac i cc) ((l0.take i).map bdF))
    (h1 : ∃ D n, n ≤ nb ∧ MapAt W b1 n D ∧ MapIs D M) (h2 : ∃ D n, n ≤ nb ∧ MapAt W b2 n D)
    (hr : Kd.R (Kd.int .i64) 3 w1 n0 (fun k => True ∧ some k ≠ vo.ownBlock) v1 ((l0.take i).map bdF ++ [bdF (rd l0 (i : Int))])) (hgr : W.grownBy w1 (Value.slice Ac i cc).ownBlock) (hat : v1.ownBlock = (Value.slice Ac i cc).ownBlock ∨ ∃ b, v1.ownBlock = some b ∧ W.heap.size ≤ b) :
    ∃ ad c, v1 = .slice (some ad) (i + 1) c ∧ w1.heap[g]? = some (.cells #[.slice A0 l0.length c0, .slice Ac i cc, .map (some b1), .map (some b2)] 98 (0, 0)) ∧ PAt nb n0 b1 b2 g A0 c0 l0 (i + 1) vo st M (w1.setCell ⟨g, 1, none⟩ v1) := by
  have e : (l0.take i).map bdF ++ [bdF (rd l0 (i : Int))] = (l0.take (i + 1)).map bdF := by
    rw [List.take_succ_eq_append_getElem hi, List.map_append, show rd l0 (i : Int) = l0.getD i 0 from by unfold rd; rw [Int.toNat_natCast], List.getD_eq_getElem?_getD, List.getElem?_eq_getElem hi]
    rfl
  rw [e] at hr
  have hlen : ((l0.take (i + 1)).map bdF).length = i + 1 := by simp; omega
  obtain ⟨ad, c, hv⟩ := Kd.R_slice1 hr (by omega)
  rw [hlen] at hv
  subst hv
  have hne : some g ≠ (Value.slice Ac i cc).ownBlock := Kd.R_ne hc hg (by decide)
  have hg1 := (hgr.block g (blk_lt hg) hne).trans hg
  have ho1 := Kd.R_after ho hgr hat
  have ht : ∀ q, q ∈ 3 :: (Kd.int .i64).E → q ≠ 98 := by intro q hq; simp [Kd.int, Kd.scalar] at hq; omega
  refine ⟨ad, c, rfl, hg1, ⟨some ad, c, blk_put hg1 1 _ rfl, Kd.R_set hr hg1 ht 1 _, Kd.R_set ho1 hg1 ht 1 _⟩, ?_, ?_⟩
  · obtain ⟨D1, n1, hn1, hm1, hd1⟩ := h1
    exact ⟨D1, n1, hn1, hm1.same ((Below.heap_setCell _ _ _ b1 (hm1.cell_ne hg)).trans (hgr.block b1 hm1.lt (hm1.ne hc))), hd1⟩
  · obtain ⟨D2, n2, hn2, hm2⟩ := h2
    exact ⟨D2, n2, hn2, hm2.same ((Below.heap_setCell _ _ _ b2 (hm2.cell_ne hg)).trans (hgr.block b2 hm2.lt (hm2.ne hc)))⟩
/-- what opens has been added -/
theorem PAt.open {nb n0 b1 b2 g : Nat} {A0 : Option Addr} {c0 : Nat} {l0 : List Int} {i p : Nat} {vo v1 : Value} {st : List Nat} {M : Nat → Option Nat} {W w1 : World} {Ac : Option Addr} {cc : Nat}
    (hg : W.heap[g]? = some (.cells #[.slice A0 l0.length c0, .slice Ac i cc, .map (some b1), .map (some b2)] 98 (0, 0)))
    (ho : Kd.R (Kd.int .i64) 3 W n0 (fun k => True ∧ some k ≠ (Value.slice Ac i cc).ownBlock) vo (st.reverse.map fun x : Nat => (x : Int))) (hc : Kd.R (Kd.int .i64) 3 W n0 (fun k => True ∧ some k ≠ vo.ownBlock) (.slice Ac i cc) ((l0.take i).map bdF))
    (h1 : ∃ D n, n ≤ nb ∧ MapAt W b1 n D ∧ MapIs D M) (h2 : ∃ D n, n ≤ nb ∧ MapAt W b2 n D)
    (hr : Kd.R (Kd.int .i64) 3 w1 n0 (fun k => True ∧ some k ≠ (Value.slice Ac i cc).ownBlock) v1 (st.reverse.map (fun x : Nat => (x : Int)) ++ [(p : Int)])) (hgr : W.grownBy w1 vo.ownBlock) (hat : v1.ownBlock = vo.ownBlock ∨ ∃ b, v1.ownBlock = some b ∧ W.heap.size ≤ b) :
    ∃ ad c, v1 = .slice (some ad) (st.length + 1) c ∧ PAt nb n0 b1 b2 g A0 c0 l0 i v1 (p :: st) M w1 := by
  obtain ⟨D1, n1, hn1, hm1, hd1⟩ := h1
  obtain ⟨D2, n2, hn2, hm2⟩ := h2
  have hne : some g ≠ vo.ownBlock := Kd.R_ne ho hg (by decide)
  obtain ⟨ad, c, hv⟩ := Kd.R_slice1 hr (by simp)
  have hlen : (st.reverse.map (fun x : Nat => (x : Int)) ++ [(p : Int)]).length = st.length + 1 := by simp
  rw [hlen] at hv
  refine ⟨ad, c, hv, ⟨Ac, cc, (hgr.block g (blk_lt hg) hne).trans hg, Kd.R_after hc hgr hat, ?_⟩, ⟨D1, n1, hn1, hm1.same (hgr.block b1 hm1.lt (hm1.ne ho)), hd1⟩, ⟨D2, n2, hn2, hm2.same (hgr.block b2 hm2.lt (hm2.ne ho))⟩⟩
  simpa using hr
theorem drop_cls {l0 : List Int} {i : Nat} (hi : i < l0.length) : (l0.map bdF).drop i = bdF (rd l0 (i : Int)) :: (l0.map bdF).drop (i + 1) := by
  rw [List.drop_eq_getElem_cons (by simpa using hi)]
  congr 1
  unfold rd
  rw [Int.toNat_natCast, List.getD_eq_getElem?_getD, List.getElem?_eq_getElem hi]
  simp
open Go.ChangeMaps in
/-- two entries of two maps, one behind the other -/
theorem two_entries {w : World} {b1 b2 n1 n2 : Nat} {D1 D2 : DataW Unit} (h1 : MapAt w b1 n1 D1) (h2 : MapAt w b2 n2 D2) (hne : b1 ≠ b2) (hn1 : n1 ≤ 1000) (hn2 : n2 ≤ 1000) (a p : Nat) (ha : a ≤ 1000) (hp : p ≤ 1000) :
    ∃ (v0 v1 : Value) (s1 s2 : Int) (o1 o2 o3 o4 : Obj),
      (Instr.mapEntry 96 (.map (some b1)) (.int .i64 (a : Int))).run Try.prog w = .ok (.tuple #[v0, .int .i64 s1]) (setBlock w b1 o1) ∧
      (Instr.entryStore 96 (.map (some b1)) (.int .i64 s1) (.int .i64 (p : Int))).run Try.prog (setBlock w b1 o1) = .ok () (setBlock (setBlock w b1 o1) b1 o2) ∧
      (Instr.mapEntry 96 (.map (some b2)) (.int .i64 (p : Int))).run Try.prog (setBlock (setBlock w b1 o1) b1 o2) = .ok (.tuple #[v1, .int .i64 s2]) (setBlock (setBlock (setBlock w b1 o1) b1 o2) b2 o3) ∧
      (Instr.entryStore 96 (.map (some b2)) (.int .i64 s2) (.int .i64 (a : Int))).run Try.prog (setBlock (setBlock (setBlock w b1 o1) b1 o2) b2 o3) = .ok () (setBlock (setBlock (setBlock (setBlock w b1 o1) b1 o2) b2 o3) b2 o4) ∧
      MapAt (setBlock (setBlock (setBlock (setBlock w b1 o1) b1 o2) b2 o3) b2 o4) b1 (n1 + 1) (D1.put (.int .i64 (a : Int)) (.lit (.int .i64 (p : Int)))) ∧
      MapAt (setBlock (setBlock (setBlock (setBlock w b1 o1) b1 o2) b2 o3) b2 o4) b2 (n2 + 1) (D2.put (.int .i64 (p : Int)) (.lit (.int .i64 (a : Int)))) ∧
      (∀ k, k ≠ b1 → k ≠ b2 → (setBlock (setBlock (setBlock (setBlock w b1 o1) b1 o2) b2 o3) b2 o4).heap[k]? = w.heap[k]?) ∧ (setBlock (setBlock (setBlock (setBlock w b1 o1) b1 o2) b2 o3) b2 o4).heap.size = w.heap.size := by
  have wf : ∀ x : Nat, x ≤ 1000 → (Lit.int .i64 (x : Int)).wf = true := fun x hx => Go.WalkArith.wf_i64 (by omega)
  have same : ∀ (u : World) (b : Nat) (o : Obj), b < u.heap.size → (setBlock u b o).heap[b]? = some o := fun u b o hb => by
    show (u.heap.setIfInBounds b o)[b]? = some o
    rw [Array.getElem?_setIfInBounds_self_of_lt hb]
  have oth : ∀ (u : World) (b k : Nat) (o : Obj), k ≠ b → (setBlock u b o).heap[k]? = u.heap[k]? := fun u b k o hk => by
    show (u.heap.setIfInBounds b o)[k]? = u.heap[k]?
    rw [Array.getElem?_setIfInBounds_ne (fun e => hk e.symm)]
  have size : ∀ (u : World) (b : Nat) (o : Obj), (setBlock u b o).heap.size = u.heap.size := fun u b o => by
    show (u.heap.setIfInBounds b o).size = u.heap.size
    rw [Array.size_setIfInBounds]
  have l1 := h1.lt
  have l2 := h2.lt
  obtain ⟨v0, s1, o1, o2, e1, e2, e3⟩ := entry_store h1 (by unfold maxLen; omega) (a : Int) (p : Int) (wf a ha) (wf p hp)
  have h2' : MapAt (setBlock (setBlock w b1 o1) b1 o2) b2 n2 D2 := h2.same ((oth _ _ _ _ (Ne.symm hne)).trans (oth _ _ _ _ (Ne.symm hne)))
  obtain ⟨v1, s2, o3, o4, e4, e5, e6⟩ := entry_store h2' (by unfold maxLen; omega) (p : Int) (a : Int) (wf p hp) (wf a ha)
  refine ⟨v0, v1, s1, s2, o1, o2, o3, o4, e1, e2 _ (same w b1 o1 l1), e4, e5 _ (same _ b2 o3 (by rw [size, size]; exact l2)), e3 _ ?_, e6 _ (same _ b2 o4 (by rw [size, size, size]; exact l2)), ?_, by rw [size, size, size, size]⟩
  · rw [oth _ _ _ _ hne, oth _ _ _ _ hne]
    exact same _ b1 o2 (by rw [size]; exact l1)
  · intro k hk1 hk2
    rw [oth _ _ _ _ hk2, oth _ _ _ _ hk2, oth _ _ _ _ hk1, oth _ _ _ _ hk1]
theorem R_maps {W W2 : World} {b1 b2 n1 n2 n0 : Nat} {D1 D2 : DataW Unit} {ok : Nat → Prop} {v : Value} {xs : List Int} (h : Kd.R (Kd.int .i64) 3 W n0 ok v xs) (m1 : MapAt W b1 n1 D1) (m2 : MapAt W b2 n2 D2) (q : ∀ k, k ≠ b1 → k ≠ b2 → W2.heap[k]? = W.heap[k]?) : Kd.R (Kd.int .i64) 3 W2 n0 ok v xs := by
  refine Kd.R_mono (Kd.R_move (Kd.R_bound h) (fun k hk => ?_)) (fun _ hk => hk.1)
  obtain ⟨_, _, _, t, _, cells, hc⟩ := hk
  refine q k ?_ ?_
  · rintro rfl
    exact m1.cell_ne hc rfl
  · rintro rfl
    exact m2.cell_ne hc rfl
/-- what is open ends: two entries have been made -/
theorem PAt.close {nb n0 b1 b2 g : Nat} {A0 : Option Addr} {c0 : Nat} {l0 : List Int} {i p a : Nat} {ao : Addr} {n co : Nat} {st st' : List Nat} {M : Nat → Option Nat} {W W2 : World} {Ac : Option Addr} {cc n1 n2 : Nat} {D1 D2 D2' : DataW Unit}
    (hg : W.heap[g]? = some (.cells #[.slice A0 l0.length c0, .slice Ac i cc, .map (some b1), .map (some b2)] 98 (0, 0)))
    (ho : Kd.R (Kd.int .i64) 3 W n0 (fun k => True ∧ some k ≠ (Value.slice Ac i cc).ownBlock) (.slice (some ao) n co) (st.reverse.map fun x : Nat => (x : Int))) (hst : st = a :: st') (hc : Kd.R (Kd.int .i64) 3 W n0 (fun k => True ∧ some k ≠ (Value.slice (some ao) n co).ownBlock) (.slice Ac i cc) ((l0.take i).map bdF))
    (m1 : MapAt W b1 n1 D1) (m2 : MapAt W b2 n2 D2) (hd : MapIs D1 M) (h1 : n1 ≤ nb) (h2 : n2 ≤ nb)
    (k1 : MapAt W2 b1 (n1 + 1) (D1.put (.int .i64 (a : Int)) (.lit (.int .i64 (p : Int))))) (k2 : MapAt W2 b2 (n2 + 1) D2') (q : ∀ k, k ≠ b1 → k ≠ b2 → W2.heap[k]? = W.heap[k]?) :
    PAt (nb + 1) n0 b1 b2 g A0 c0 l0 i (.slice (some ao) st'.length co) st' (fun k => if k = a then some p else M k) W2 := by
  subst hst
  have e : ((a :: st').reverse.map fun x : Nat => (x : Int)).take st'.length = st'.reverse.map fun x : Nat => (x : Int) := by
    rw [List.reverse_cons, List.map_append, List.take_append_of_le_length (by simp), List.take_of_length_le (by simp)]
  have ho2 := Kd.R_take (m := st'.length) (R_maps ho m1 m2 q) (by simp)
  rw [e] at ho2
  exact ⟨⟨Ac, cc, (q g (m1.cell_ne hg).symm (m2.cell_ne hg).symm).trans hg, R_maps hc m1 m2 q, ho2⟩, ⟨_, n1 + 1, by omega, k1, hd.put a p⟩, ⟨_, n2 + 1, by omega, k2⟩⟩
theorem rd_last (st : List Nat) (a : Nat) : rd ((a :: st).reverse.map fun x : Nat => (x : Int)) (st.length : Int) = (a : Int) := by
  unfold rd
  rw [Int.toNat_natCast, List.getD_eq_getElem?_getD]
  simp
theorem info_some (h : (Try.prog.info? 3).map (fun i => (i.zero, i.size, i.bytes)) = some (some (.int .i64 0), 1, 8)) : ∃ i, Try.prog.info? 3 = some i := by
  cases hi : Try.prog.info? 3 with
  | none => rw [hi] at h; cases h
  | some i => exact ⟨i, rfl⟩
theorem opens_below (c : Int) (b : Bool) (W : World) (h : opn c = b) : Calls Try.prog 102 #[.int .i64 c] W fun e w' => e = .returned (.bool b) ∧ Below W.heap.size W w' := by
  refine (impl_opens.calls c b W (by rw [opens_eq, h])).mono ?_
  rintro e w' ⟨rfl, ⟨q, rfl⟩⟩
  exact ⟨rfl, pw_below_drewN (Below.refl _ _) q⟩
theorem st_len {st : List Nat} {i : Nat} (h : ∀ a ∈ st, a < i) (hn : st.Nodup) : st.length ≤ i := by
  have h1 := List.Nodup.length_le_of_subset hn (l₂ := List.range i) (fun a ha => List.mem_range.2 (h a ha))
  simpa using h1
set_option maxHeartbeats 4000000 in
set_option maxRecDepth 100000 in
/-- paragraphOf: the classes of all letters, and the mates. -/
theorem paragraphOf_calls (A0 : Option Addr) (c0 : Nat) (l0 : List Int) (w : World) (hr0 : Kd.C (Kd.int .i64) w A0 l0.length l0) (hc0 : l0.length ≤ c0) (hlen : l0.length ≤ 1000) (hbd : ∀ x ∈ l0, (impl_RuneBidi.f x).isSome = true) :
    Calls Try.prog 66 #[.slice A0 l0.length c0] w fun e w' => ∃ g b1 b2 vo st, e = .returned (.pointer (some ⟨g, 0, none⟩)) ∧ PAt l0.length w.heap.size b1 b2 g A0 c0 l0 l0.length vo st (mtRun (l0.map bdF) 0 [] fun _ => none) w' ∧ Below w.heap.size w w' := by
  have hu22 := Try.underlying22
  have hu96 := Try.underlying96
  have hu98 := Try.underlying98
  have hu71 := Try.underlying71
  have HR0 := Aside0.mk hr0
  have HC0 := Aside0.mk hc0
  have HBD := Aside0.mk hbd
  have HLEN := Aside0.mk hlen
  have hbig : l0.length ≤ 9223372036854775807 := by omega
  clear hr0 hc0 hbd hlen
  have hmm := @run_makeMap Try.prog
  go_enter Try.func66, Try.ntmps66
  go_wp2
  have hP0 : PAt 0 w.heap.size w.heap.size (w.heap.size + 1) (w.heap.size + 1 + 1) A0 c0 l0 0 (.slice none 0 0) [] (fun _ => none) (((w.alloc (.map #[] 0)).alloc (.map #[] 0)).alloc (.cells #[.slice A0 l0.length c0, .slice none 0 0, .map (some w.heap.size), .map (some (w.heap.size + 1))] 98)) := by
    refine ⟨⟨none, 0, ?_, Kd.R_nil _ _ _ _ _, Kd.R_nil _ _ _ _ _⟩, ⟨.map [], 0, Nat.le_refl _, ?_, MapIs.empty⟩, ⟨.map [], 0, Nat.le_refl _, ?_⟩⟩
    · have := blk_new ((w.alloc (.map #[] 0)).alloc (.map #[] 0)) (.cells #[.slice A0 l0.length c0, .slice none 0 0, .map (some w.heap.size), .map (some (w.heap.size + 1))] 98)
      simpa using this
    · exact World.ownsMap.alloc (World.ownsMap.alloc (World.ownsMap_made w _ _ _) _) _
    · have := World.ownsMap.alloc (World.ownsMap_made (w.alloc (.map #[] 0)) Try.prog 3 (plainElem (H := Unit) Try.prog 3)) (.cells #[.slice A0 l0.length c0, .slice none 0 0, .map (some w.heap.size), .map (some (w.heap.size + 1))] 98)
      simpa [MapAt] using this
  have HP0 := Aside0.mk hP0
  have HB0 := Aside0.mk ((((Below.refl w.heap.size w).alloc (Nat.le_refl _) (.map #[] 0)).alloc (by simp) (.map #[] 0)).alloc (by simp; omega) (.cells #[.slice A0 l0.length c0, .slice none 0 0, .map (some w.heap.size), .map (some (w.heap.size + 1))] 98))
  clear hP0
  go_loopg [4, 16] l0.length (fun kq v4 v16 wr => ∃ (i : Nat) (Ao : Option Addr) (co : Nat) (st : List Nat) (M : Nat → Option Nat), v4 = .slice Ao st.length co ∧ v16 = .int .i64 (i : Int) ∧ Aside0 (kq + i = l0.length) ∧ Aside0 (PAt i w.heap.size w.heap.size (w.heap.size + 1) (w.heap.size + 1 + 1) A0 c0 l0 i (.slice Ao st.length co) st M wr) ∧ Aside0 (mtRun ((l0.map bdF).drop i) i st M = mtRun (l0.map bdF) 0 [] fun _ => none) ∧ Aside0 (∀ a ∈ st, a < i) ∧ Aside0 st.Nodup ∧ Aside0 (Below w.heap.size w wr))
  case atStart => exact ⟨0, none, 0, [], fun _ => none, rfl, rfl, ⟨by omega⟩, HP0, ⟨rfl⟩, ⟨by simp⟩, ⟨List.nodup_nil⟩, HB0⟩
  case round =>
    clear HP0 HB0
    obtain ⟨i, Ao, co, st, M, rfl, rfl, HK, HP, HM, HS, HND, HB⟩ := hrel
    cases gk with
    | zero =>
      have hi : i = l0.length := by have := HK.out; omega
      subst hi
      have hdec : decide ((l0.length : Int) < (l0.length : Int)) = false := by simp
      go_wp2
      go_ret
      refine ⟨w.heap.size + 1 + 1, w.heap.size, w.heap.size + 1, .slice Ao st.length co, st, rfl, ?_, HB.out⟩
      have h1 := HM.out
      rw [List.drop_of_length_le (by simp)] at h1
      rw [← h1]
      exact HP.out
    | succ k1 =>
      have hi : i < l0.length := by have := HK.out; omega
      have hdec : decide ((i : Int) < (l0.length : Int)) = true := decide_eq_true (by omega)
      have p1 : (0 : Int) ≤ (i : Int) := by omega
      have p2 : (i : Int) < (l0.length : Int) := by omega
      obtain ⟨ad, e1, h0⟩ := Kd.at_int (Kd.C_below HR0.out HB.out) (i : Int) p1 p2
      cases e1
      rw [Int.toNat_natCast] at h0
      generalize hx0 : rd l0 (i : Int) = x0 at h0
      have hbx := bdF_eq (HBD.out x0 (by rw [← hx0]; unfold rd; rw [Int.toNat_natCast, List.getD_eq_getElem?_getD, List.getElem?_eq_getElem hi]; exact List.getElem_mem _))
      have HX := Aside0.mk hx0
      have HBX := Aside0.mk hbx
      clear hx0 hbx
      have hls : st.length ≤ i := st_len HS.out HND.out
      have HLS := Aside0.mk hls
      clear hls
      by_cases hopn : opn (bdF x0) = true
      · have HOPN := Aside0.mk hopn
        clear hopn
        have HOPC := Aside0.mk (fun W => opens_below (bdF x0) true W HOPN.out)
        go_wp2_with (first
          | (go_at_call 101; refine (impl_RuneBidi.calls x0 (bdF x0) _ HBX.out).mono ?_; rintro e w2 ⟨rfl, hb2⟩; have HP2 := Aside0.mk (PAt.below HP.out hb2); have HB2 := Aside0.mk (below_step HB.out hb2); clear hb2; obtain ⟨⟨Ac, cc, hg, hc, ho⟩, hm1, hm2⟩ := id HP2.out; have hcg : _ = some (Value.slice Ac i cc) := (blk_cell hg 1).trans rfl; have HG := Aside0.mk hg; have HC := Aside0.mk hc; have HO := Aside0.mk ho; have HM1 := Aside0.mk hm1; have HM2 := Aside0.mk hm2; clear hg hc ho hm1 hm2)
          | (at_builtin; refine Kd.R_append (Kd.int .i64) (w0 := w) w.heap.size rfl (.tmp 27) (.tmp 29) 22 3 (.int .i64 0) 8 rfl Try.underlying22 infoI rfl (by decide) (by decide) (.slice Ac i cc) ((l0.take i).map bdF) (bdF x0) [.int .i64 (bdF x0)] (fun k => True ∧ some k ≠ (Value.slice Ao st.length co).ownBlock) (fun _ => False) rfl rfl ?aP (fun _ hk => hk.elim) ?aF HC.out HB2.out HB2.out.size (by simp; have := HLEN.out; omega) ?_; (case aP => exact rfl); (case aF => exact fun k hk => ⟨trivial, Kd.fresh_ok HO.out k hk⟩); intro v1 w3 ho3 hb3 hgr3 hat3; obtain ⟨ad3, c3, hv3, hg3, hp3⟩ := PAt.class hi HG.out HO.out HC.out HM1.out HM2.out (by rw [HX.out]; exact ho3) hgr3 hat3; subst hv3; have h4 : w3.cell? ⟨w.heap.size + 1 + 1, 1, none⟩ = some (.slice Ac i cc) := (blk_cell hg3 1).trans rfl; have h5 : w3.frozen? ⟨w.heap.size + 1 + 1, 1, none⟩ = false := (by simp [World.frozen?, hg3]); have HP3 := Aside0.mk hp3; have HB3 := Aside0.mk (hb3.setCell (p := ⟨w.heap.size + 1 + 1, 1, none⟩) (by show w.heap.size ≤ w.heap.size + 1 + 1; omega) (.slice (some ad3) (i + 1) c3)); clear hp3 hb3 hgr3 hat3 ho3 hg3 hcg HG HO HC HM1 HM2)
          | (go_at_call 102; refine (HOPC.out _).mono ?_; rintro e w4 ⟨rfl, hb4⟩; have HP4 := Aside0.mk (PAt.below HP3.out hb4); have HB4 := Aside0.mk (below_step HB3.out hb4); clear hb4)
          | (at_builtin; obtain ⟨⟨Ac4, cc4, hg4, hc4, ho4⟩, hm41, hm42⟩ := id HP4.out; refine Kd.R_append (Kd.int .i64) (w0 := w) w.heap.size rfl (.tmp 39) (.tmp 41) 22 3 (.int .i64 0) 8 rfl Try.underlying22 infoI rfl (by decide) (by decide) (.slice Ao st.length co) (st.reverse.map fun x : Nat => (x : Int)) (i : Int) [.int .i64 (i : Int)] (fun k => True ∧ some k ≠ (Value.slice Ac4 (i + 1) cc4).ownBlock) (fun _ => False) rfl rfl ?bP (fun _ hk => hk.elim) ?bF ho4 HB4.out HB4.out.size (by simp; have := HLS.out; have := HLEN.out; omega) ?_; (case bP => exact rfl); (case bF => exact fun k hk => ⟨trivial, Kd.fresh_ok hc4 k hk⟩); intro v5 w5 ho5 hb5 hgr5 hat5; obtain ⟨ad5, c5, hv5, hp5⟩ := PAt.open hg4 ho4 hc4 hm41 hm42 ho5 hgr5 hat5; subst hv5; have HP5 := Aside0.mk hp5; have HB5 := Aside0.mk hb5; clear hp5 hb5 hgr5 hat5 ho5 hg4 hc4 ho4 hm41 hm42))
        go_roundg k1
        case measure => omega
        case rel =>
          refine ⟨i + 1, some ad5, c5, i :: st, M, rfl, ?_, ⟨by have := HK.out; omega⟩, ⟨HP5.out.more⟩, ⟨?_⟩, ⟨?_⟩, ⟨?_⟩, HB5⟩
          · congr 1
          · rw [← HM.out, drop_cls hi, HX.out]
            conv => rhs; unfold mtRun
            rw [if_pos HOPN.out]
          · intro a ha
            rcases List.mem_cons.1 ha with rfl | ha
            · omega
            · have := HS.out a ha; omega
          · exact List.nodup_cons.2 ⟨fun h => by have := HS.out i h; omega, HND.out⟩
      · replace hopn : opn (bdF x0) = false := by simpa using hopn
        have HOPN := Aside0.mk hopn
        clear hopn
        have HOPC := Aside0.mk (fun W => opens_below (bdF x0) false W HOPN.out)
        by_cases hcl : bdF x0 = 22 ∧ st ≠ []
        · obtain ⟨h22, hst⟩ := hcl
          obtain ⟨a, st', hst2⟩ : ∃ a st', st = a :: st' := by
            cases st with
            | nil => exact absurd rfl hst
            | cons a st' => exact ⟨a, st', rfl⟩
          have hb22 : (bdF x0 == 22) = true := beq_iff_eq.2 h22
          obtain ⟨m, hm⟩ : ∃ m, m = st'.length := ⟨_, rfl⟩
          have hlm : st.length = m + 1 := by rw [hst2, hm]; rfl
          have hw1 : wrap64 ((st.length : Int) - 1) = (m : Int) := by
            have h := HLS.out
            have h2 := HLEN.out
            unfold wrap64
            omega
          have hge : decide ((m : Int) ≥ 0) = true := decide_eq_true (by omega)
          have p3 : (m : Int) < (st.length : Int) := by omega
          have p4 : (0 : Int) ≤ (m : Int) := by omega
          have H22 := Aside0.mk h22
          have HST := Aside0.mk hst2
          have HM0 := Aside0.mk hm
          have HLM := Aside0.mk hlm
          clear h22 hst hst2 hm hlm
          go_wp2_with (first
            | (go_at_call 101; refine (impl_RuneBidi.calls x0 (bdF x0) _ HBX.out).mono ?_; rintro e w2 ⟨rfl, hb2⟩; have HP2 := Aside0.mk (PAt.below HP.out hb2); have HB2 := Aside0.mk (below_step HB.out hb2); clear hb2; obtain ⟨⟨Ac, cc, hg, hc, ho⟩, hm1, hm2⟩ := id HP2.out; have hcg : _ = some (Value.slice Ac i cc) := (blk_cell hg 1).trans rfl; have HG := Aside0.mk hg; have HC := Aside0.mk hc; have HO := Aside0.mk ho; have HM1 := Aside0.mk hm1; have HM2 := Aside0.mk hm2; clear hg hc ho hm1 hm2)
            | (at_builtin; refine Kd.R_append (Kd.int .i64) (w0 := w) w.heap.size rfl (.tmp 27) (.tmp 29) 22 3 (.int .i64 0) 8 rfl Try.underlying22 infoI rfl (by decide) (by decide) (.slice Ac i cc) ((l0.take i).map bdF) (bdF x0) [.int .i64 (bdF x0)] (fun k => True ∧ some k ≠ (Value.slice Ao st.length co).ownBlock) (fun _ => False) rfl rfl ?aP (fun _ hk => hk.elim) ?aF HC.out HB2.out HB2.out.size (by simp; have := HLEN.out; omega) ?_; (case aP => exact rfl); (case aF => exact fun k hk => ⟨trivial, Kd.fresh_ok HO.out k hk⟩); intro v1 w3 ho3 hb3 hgr3 hat3; obtain ⟨ad3, c3, hv3, hg3, hp3⟩ := PAt.class hi HG.out HO.out HC.out HM1.out HM2.out (by rw [HX.out]; exact ho3) hgr3 hat3; subst hv3; have h4 : w3.cell? ⟨w.heap.size + 1 + 1, 1, none⟩ = some (.slice Ac i cc) := (blk_cell hg3 1).trans rfl; have h5 : w3.frozen? ⟨w.heap.size + 1 + 1, 1, none⟩ = false := (by simp [World.frozen?, hg3]); have HP3 := Aside0.mk hp3; have HB3 := Aside0.mk (hb3.setCell (p := ⟨w.heap.size + 1 + 1, 1, none⟩) (by show w.heap.size ≤ w.heap.size + 1 + 1; omega) (.slice (some ad3) (i + 1) c3)); clear hp3 hb3 hgr3 hat3 ho3 hg3 hcg HG HO HC HM1 HM2)
            | (go_at_call 102; refine (HOPC.out _).mono ?_; rintro e w4 ⟨rfl, hb4⟩; have HP4 := Aside0.mk (PAt.below HP3.out hb4); have HB4 := Aside0.mk (below_step HB3.out hb4); clear hb4))
          obtain ⟨⟨Ac4, cc4, hg4, hc4, ho4⟩, ⟨D1, n1, hn1, hm1, hd1⟩, ⟨D2, n2, hn2, hm2⟩⟩ := id HP4.out
          have hne12 : w.heap.size ≠ w.heap.size + 1 := by omega
          have hlst := HLEN.out
          have hai : a < i := HS.out a (by rw [HST.out]; exact List.mem_cons_self)
          obtain ⟨v0, v1, s1, s2, o1, o2, o3, o4, e1, e2, e3, e4, q1, q2, q3, q4⟩ := two_entries (w := w4.drew) (World.ownsMap.drew hm1) (World.ownsMap.drew hm2) hne12 (by omega) (by omega) a i (by omega) (by omega)
          have hRo := Kd.R_reads' ho4
          obtain ⟨ao, ea, hx1⟩ := Kd.at_int hRo.2.2 (m : Int) p4 (by have h := HLM.out; simp; omega)
          cases ea
          rw [Int.toNat_natCast, show rd (st.reverse.map fun x : Nat => (x : Int)) (m : Int) = (a : Int) from by rw [HST.out, HM0.out]; exact rd_last st' a] at hx1
          have hx2 : w4.drew.cell? (ao.add m) = some (.int .i64 (a : Int)) := hx1
          have hx3 : w4.drew.cell? ⟨w.heap.size + 1 + 1, 2, none⟩ = some (.map (some w.heap.size)) := (blk_cell hg4 2).trans rfl
          have hx4 : w4.drew.cell? ⟨w.heap.size + 1 + 1, 3, none⟩ = some (.map (some (w.heap.size + 1))) := (blk_cell hg4 3).trans rfl
          have hcut := cut_to 22 3 .i64 (A := some ao) (n := st.length) (c := co) (j := (m : Int)) Try.underlying22 (info_some infoI).choose_spec p4 (by have := HLM.out; omega) hRo.2.1
          rw [Int.toNat_natCast] at hcut
          have hsb : Below w4.heap.size w4 w4 := Below.refl _ _
          have HP5 := Aside0.mk (PAt.close (i := i + 1) hg4 ho4 HST.out hc4 hm1 hm2 hd1 hn1 hn2 q1 q2 q3)
          have HQ := Aside0.mk (And.intro q3 q4)
          clear q1 q2 q3 q4 hg4 hc4 ho4 hm1 hm2 hd1 hn1 hn2 hRo hx1 hne12 hlst hai hsb
          go_region
          go_wp2
          go_roundg k1
          case measure => omega
          case rel =>
            refine ⟨i + 1, some ao, co, st', fun k => if k = a then some i else M k, by rw [HM0.out], by congr 1, ⟨by have := HK.out; omega⟩, HP5, ⟨?_⟩, ⟨?_⟩, ⟨?_⟩, ⟨?_⟩⟩
            · rw [← HM.out, drop_cls hi, HX.out, HST.out]
              conv => rhs; unfold mtRun
              rw [if_neg (by rw [HOPN.out]; decide), if_pos H22.out]
            · intro b hb
              have := HS.out b (by rw [HST.out]; exact List.mem_cons_of_mem _ hb)
              omega
            · have h := HND.out
              rw [HST.out] at h
              exact (List.nodup_cons.1 h).2
            · exact HB4.out.trans ⟨rfl, rfl, rfl, Nat.le_of_eq HQ.out.2.symm, fun k hk => HQ.out.1 k (by omega) (by omega)⟩
        · have hcond : (bdF x0 == 22) = false ∨ st = [] := by
            by_cases h1 : bdF x0 = 22
            · exact .inr (Classical.byContradiction fun h2 => hcl ⟨h1, h2⟩)
            · exact .inl (beq_eq_false_iff_ne.2 h1)
          have hmt : mtRun ((l0.map bdF).drop (i + 1)) (i + 1) st M = mtRun (l0.map bdF) 0 [] fun _ => none := by
            rw [← HM.out, drop_cls hi, HX.out]
            conv => rhs; unfold mtRun
            rw [if_neg (by rw [HOPN.out]; decide)]
            by_cases h1 : bdF x0 = 22
            · rw [if_pos h1]
              have h2 : st = [] := Classical.byContradiction fun h2 => hcl ⟨h1, h2⟩
              subst h2
              rfl
            · rw [if_neg h1]
          have HMT := Aside0.mk hmt
          clear hmt hcl
          rcases hcond with hne | hnil
          · have hne2 : decide (bdF x0 = 22) = false := by simpa using hne
            go_wp2_with (first
              | (go_at_call 101; refine (impl_RuneBidi.calls x0 (bdF x0) _ HBX.out).mono ?_; rintro e w2 ⟨rfl, hb2⟩; have HP2 := Aside0.mk (PAt.below HP.out hb2); have HB2 := Aside0.mk (below_step HB.out hb2); clear hb2; obtain ⟨⟨Ac, cc, hg, hc, ho⟩, hm1, hm2⟩ := id HP2.out; have hcg : _ = some (Value.slice Ac i cc) := (blk_cell hg 1).trans rfl; have HG := Aside0.mk hg; have HC := Aside0.mk hc; have HO := Aside0.mk ho; have HM1 := Aside0.mk hm1; have HM2 := Aside0.mk hm2; clear hg hc ho hm1 hm2)
              | (at_builtin; refine Kd.R_append (Kd.int .i64) (w0 := w) w.heap.size rfl (.tmp 27) (.tmp 29) 22 3 (.int .i64 0) 8 rfl Try.underlying22 infoI rfl (by decide) (by decide) (.slice Ac i cc) ((l0.take i).map bdF) (bdF x0) [.int .i64 (bdF x0)] (fun k => True ∧ some k ≠ (Value.slice Ao st.length co).ownBlock) (fun _ => False) rfl rfl ?aP (fun _ hk => hk.elim) ?aF HC.out HB2.out HB2.out.size (by simp; have := HLEN.out; omega) ?_; (case aP => exact rfl); (case aF => exact fun k hk => ⟨trivial, Kd.fresh_ok HO.out k hk⟩); intro v1 w3 ho3 hb3 hgr3 hat3; obtain ⟨ad3, c3, hv3, hg3, hp3⟩ := PAt.class hi HG.out HO.out HC.out HM1.out HM2.out (by rw [HX.out]; exact ho3) hgr3 hat3; subst hv3; have h4 : w3.cell? ⟨w.heap.size + 1 + 1, 1, none⟩ = some (.slice Ac i cc) := (blk_cell hg3 1).trans rfl; have h5 : w3.frozen? ⟨w.heap.size + 1 + 1, 1, none⟩ = false := (by simp [World.frozen?, hg3]); have HP3 := Aside0.mk hp3; have HB3 := Aside0.mk (hb3.setCell (p := ⟨w.heap.size + 1 + 1, 1, none⟩) (by show w.heap.size ≤ w.heap.size + 1 + 1; omega) (.slice (some ad3) (i + 1) c3)); clear hp3 hb3 hgr3 hat3 ho3 hg3 hcg HG HO HC HM1 HM2)
              | (go_at_call 102; refine (HOPC.out _).mono ?_; rintro e w4 ⟨rfl, hb4⟩; have HP4 := Aside0.mk (PAt.below HP3.out hb4); have HB4 := Aside0.mk (below_step HB3.out hb4); clear hb4))
            go_roundg k1
            case measure => omega
            case rel =>
              refine ⟨i + 1, Ao, co, st, M, rfl, ?_, ⟨by have := HK.out; omega⟩, ⟨HP4.out.more⟩, HMT, ⟨fun a ha => by have := HS.out a ha; omega⟩, HND, HB4⟩
              congr 1
          · have hw : wrap64 ((st.length : Int) - 1) = -1 := by rw [hnil]; show wrap64 (0 - 1) = -1; unfold wrap64; omega
            clear hnil
            cases hq : (bdF x0 == 22)
            all_goals
              go_wp2_with (first
                | (go_at_call 101; refine (impl_RuneBidi.calls x0 (bdF x0) _ HBX.out).mono ?_; rintro e w2 ⟨rfl, hb2⟩; have HP2 := Aside0.mk (PAt.below HP.out hb2); have HB2 := Aside0.mk (below_step HB.out hb2); clear hb2; obtain ⟨⟨Ac, cc, hg, hc, ho⟩, hm1, hm2⟩ := id HP2.out; have hcg : _ = some (Value.slice Ac i cc) := (blk_cell hg 1).trans rfl; have HG := Aside0.mk hg; have HC := Aside0.mk hc; have HO := Aside0.mk ho; have HM1 := Aside0.mk hm1; have HM2 := Aside0.mk hm2; clear hg hc ho hm1 hm2)
                | (at_builtin; refine Kd.R_append (Kd.int .i64) (w0 := w) w.heap.size rfl (.tmp 27) (.tmp 29) 22 3 (.int .i64 0) 8 rfl Try.underlying22 infoI rfl (by decide) (by decide) (.slice Ac i cc) ((l0.take i).map bdF) (bdF x0) [.int .i64 (bdF x0)] (fun k => True ∧ some k ≠ (Value.slice Ao st.length co).ownBlock) (fun _ => False) rfl rfl ?aP (fun _ hk => hk.elim) ?aF HC.out HB2.out HB2.out.size (by simp; have := HLEN.out; omega) ?_; (case aP => exact rfl); (case aF => exact fun k hk => ⟨trivial, Kd.fresh_ok HO.out k hk⟩); intro v1 w3 ho3 hb3 hgr3 hat3; obtain ⟨ad3, c3, hv3, hg3, hp3⟩ := PAt.class hi HG.out HO.out HC.out HM1.out HM2.out (by rw [HX.out]; exact ho3) hgr3 hat3; subst hv3; have h4 : w3.cell? ⟨w.heap.size + 1 + 1, 1, none⟩ = some (.slice Ac i cc) := (blk_cell hg3 1).trans rfl; have h5 : w3.frozen? ⟨w.heap.size + 1 + 1, 1, none⟩ = false := (by simp [World.frozen?, hg3]); have HP3 := Aside0.mk hp3; have HB3 := Aside0.mk (hb3.setCell (p := ⟨w.heap.size + 1 + 1, 1, none⟩) (by show w.heap.size ≤ w.heap.size + 1 + 1; omega) (.slice (some ad3) (i + 1) c3)); clear hp3 hb3 hgr3 hat3 ho3 hg3 hcg HG HO HC HM1 HM2)
                | (go_at_call 102; refine (HOPC.out _).mono ?_; rintro e w4 ⟨rfl, hb4⟩; have HP4 := Aside0.mk (PAt.below HP3.out hb4); have HB4 := Aside0.mk (below_step HB3.out hb4); clear hb4))
              go_roundg k1
              case measure => omega
              case rel =>
                refine ⟨i + 1, Ao, co, st, M, rfl, ?_, ⟨by have := HK.out; omega⟩, ⟨HP4.out.more⟩, HMT, ⟨fun a ha => by have := HS.out a ha; omega⟩, HND, HB4⟩
                congr 1
theorem mtRun_lt : ∀ (r : List Int) (p : Nat) (st : List Nat) (M : Nat → Option Nat), (∀ k v, M k = some v → v < p + r.length) → ∀ k v, mtRun r p st M k = some v → v < p + r.length
  | [], p, st, M, h => h
  | c :: r, p, st, M, h => by
    have h' : ∀ k v, M k = some v → v < p + 1 + r.length := fun k v hk => by have := h k v hk; simp at this; omega
    intro k v hk
    have e : p + (c :: r).length = p + 1 + r.length := by simp; omega
    rw [e]
    unfold mtRun at hk
    split at hk
    · exact mtRun_lt r (p + 1) _ M h' k v hk
    · split at hk
      · cases st with
        | nil => exact mtRun_lt r (p + 1) _ M h' k v hk
        | cons a st =>
          refine mtRun_lt r (p + 1) st _ ?_ k v hk
          intro k2 v2 hk2
          split at hk2
          · injection hk2 with hk2
            omega
          · exact h' k2 v2 hk2
      · exact mtRun_lt r (p + 1) _ M h' k v hk
set_option maxHeartbeats 4000000 in
set_option maxRecDepth 100000 in
/-- (*paragraph).side, from the first letter on. -/
theorem side_calls (K : Nat) (nb n0 b1 b2 g : Nat) (A0 : Option Addr) (c0 : Nat) (l0 : List Int) (vo : Value) (st : List Nat) (M : Nat → Option Nat) (r : Int) (w : World) (h : PAt nb n0 b1 b2 g A0 c0 l0 l0.length vo st M w) (hlen : l0.length ≤ 1000)
    (hM : ∀ k v, M k = some v → v < l0.length) (hr : sideF (l0.map bdF) M K 0 = some r) :
    Calls Try.prog 67 #[.pointer (some ⟨g, 0, none⟩), .int .i64 0, .int .i64 (l0.length : Int)] w fun e w' => e = .returned (.int .i64 r) ∧ Below w.heap.size w w' := by
  have hu22 := Try.underlying22
  have hu96 := Try.underlying96
  have hu98 := Try.underlying98
  have hu71 := Try.underlying71
  have hbig : l0.length ≤ 9223372036854775807 := by omega
  have HP := Aside0.mk h
  have HLEN := Aside0.mk hlen
  have HM := Aside0.mk hM
  have HR := Aside0.mk hr
  clear h hlen hM hr
  go_enter Try.func67, Try.ntmps67
  go_wp2
  go_loopg [7] K (fun kq v7 wr => ∃ (i : Nat), v7 = .int .i64 (i : Int) ∧ Aside0 (i ≤ l0.length) ∧ Aside0 (sideF (l0.map bdF) M kq i = some r) ∧ Aside0 (Below w.heap.size w wr))
  case atStart => exact ⟨0, rfl, ⟨by omega⟩, HR, ⟨Below.refl _ _⟩⟩
  case round =>
    obtain ⟨i, rfl, HI, HS, HB⟩ := hrel
    cases gk with
    | zero => exact absurd HS.out (by simp [sideF])
    | succ k1 =>
      by_cases hlt : i < l0.length
      · have hltz : (i : Int) < (l0.length : Int) := by omega
        have p1 : (0 : Int) ≤ (i : Int) := by omega
        obtain ⟨⟨Ac, cc, hg, hc, ho⟩, ⟨D1, n1, hn1, hm1, hd1⟩, _⟩ := PAt.below HP.out HB.out
        have hcg : _ = some (Value.slice Ac l0.length cc) := (blk_cell hg 1).trans rfl
        have hmg : _ = some (Value.map (some b1)) := (blk_cell hg 2).trans rfl
        have hRc := Kd.R_reads' hc
        obtain ⟨ad, e1, hx⟩ := Kd.at_int hRc.2.2 (i : Int) p1 (by simp; omega)
        cases e1
        rw [Int.toNat_natCast] at hx
        have hv : rd ((l0.take l0.length).map bdF) (i : Int) = (l0.map bdF).getD i 0 := by
          unfold rd
          rw [Int.toNat_natCast, List.take_length]
        rw [hv] at hx
        have hS := HS.out
        unfold sideF at hS
        rw [if_pos (by simpa using hlt)] at hS
        have HD := Aside0.mk (hd1.2 i)
        have HM1 := Aside0.mk hm1
        have hkey := Go.Maps.keyOf_int_mk Try.underlying3 (a := (i : Int)) (q := .i64) (Go.WalkArith.wf_i64 (by have := HLEN.out; omega))
        have HKEY := Aside0.mk hkey
        generalize (l0.map bdF).getD i 0 = c at hx hS
        clear hg hc ho hd1 hm1 hRc hv hn1 hkey
        by_cases h1 : c = 1
        · rw [if_pos h1] at hS
          subst h1
          cases hS
          go_wp2
          go_ret
          exact ⟨rfl, HB.out⟩
        rw [if_neg h1] at hS
        have h1b : (c == 1) = false := beq_eq_false_iff_ne.2 h1
        by_cases h2 : c = 2
        · rw [if_pos h2] at hS
          subst h2
          cases hS
          go_wp2
          go_ret
          exact ⟨rfl, HB.out⟩
        rw [if_neg h2] at hS
        have h2b : (c == 2) = false := beq_eq_false_iff_ne.2 h2
        by_cases h3 : c = 3
        · rw [if_pos h3] at hS
          subst h3
          cases hS
          go_wp2
          go_ret
          exact ⟨rfl, HB.out⟩
        rw [if_neg h3] at hS
        have h3b : (c == 3) = false := beq_eq_false_iff_ne.2 h3
        clear h1 h2 h3
        by_cases ho : opn c = true
        · rw [if_pos ho] at hS
          have HO := Aside0.mk ho
          clear ho
          cases hMi : M i with
          | none =>
            rw [hMi] at hS
            cases hS
            have hhas : Maps.has D1 (.int .i64 (i : Int)) = false := by rw [HD.out.1, hMi]; rfl
            clear hMi
            go_wp2_with (first | (go_at_call 102; refine (opens_below c true _ HO.out).mono ?_; rintro e w2 ⟨rfl, hb2⟩; have HB2 := Aside0.mk (below_step HB.out hb2); have HM2 := Aside0.mk (HM1.out.same (hb2.block b1 HM1.out.lt)); have hmg2 := pw_cell_below hb2 hmg; clear hb2) | (at_lookup; refine wpList_lookup_own_ok_int _ rfl _ _ 96 rfl 3 3 .i64 law3 Try.underlying96 Try.underlying3 (zero3 _) b1 n1 D1 rfl HM2.out _ _ rfl HKEY.out ?_; intro cv hat hwc; clear hat hwc))
            go_ret
            exact ⟨rfl, HB2.out⟩
          | some v =>
            rw [hMi] at hS
            have hvl := HM.out i v hMi
            have hhas : Maps.has D1 (.int .i64 (i : Int)) = true := by rw [HD.out.1, hMi]; rfl
            have hat0 := HD.out.2 v hMi
            have HAT := Aside0.mk hat0
            have HS2 := Aside0.mk hS
            clear hMi hat0 hS
            have hvz : (v : Int) ≤ 9223372036854775806 := by omega
            go_wp2_with (first | (go_at_call 102; refine (opens_below c true _ HO.out).mono ?_; rintro e w2 ⟨rfl, hb2⟩; have HB2 := Aside0.mk (below_step HB.out hb2); have HM2 := Aside0.mk (HM1.out.same (hb2.block b1 HM1.out.lt)); have hmg2 := pw_cell_below hb2 hmg; clear hb2) | (at_lookup; refine wpList_lookup_own_ok_int _ rfl _ _ 96 rfl 3 3 .i64 law3 Try.underlying96 Try.underlying3 (zero3 _) b1 n1 D1 rfl HM2.out _ _ rfl HKEY.out ?_; intro cv hat hwc; rw [HAT.out] at hat; obtain rfl : cv = (v : Int) := (by injection hat with hat; injection hat with _ hat; exact hat.symm); clear hat hwc))
            go_roundg k1
            case measure => omega
            case rel => exact ⟨v + 1, by congr 1, ⟨by omega⟩, HS2, HB2⟩
        · rw [if_neg ho] at hS
          have HO := Aside0.mk (show opn c = false by simpa using ho)
          have HS2 := Aside0.mk hS
          clear ho hS
          go_wp2_with (go_at_call 102; refine (opens_below c false _ HO.out).mono ?_; rintro e w2 ⟨rfl, hb2⟩; have HB2 := Aside0.mk (below_step HB.out hb2); clear hb2)
          go_roundg k1
          case measure => omega
          case rel => exact ⟨i + 1, by congr 1, ⟨by omega⟩, HS2, HB2⟩
      · have hi : i = l0.length := by have := HI.out; omega
        subst hi
        have hltz : decide ((l0.length : Int) < (l0.length : Int)) = false := by simp
        have hS := HS.out
        unfold sideF at hS
        rw [if_neg (by simp)] at hS
        cases hS
        go_wp2
        go_ret
        exact ⟨rfl, HB.out⟩
set_option maxHeartbeats 2000000 in
set_option maxRecDepth 100000 in
theorem impl_LevelBase.calls (k : Nat) (A0 : Option Addr) (c0 : Nat) (l0 : List Int) (r : Int) (w : World) (hr0 : Kd.C (Kd.int .i64) w A0 l0.length l0) (hc0 : l0.length ≤ c0) (h : impl_LevelBase.f k l0 = some r) :
    Calls Try.prog 23 #[.slice A0 l0.length c0] w fun e w' => e = .returned (.int .i64 r) ∧ Below w.heap.size w w' := by
  unfold impl_LevelBase.f at h
  obtain ⟨t, ht, h'⟩ := Option.bind_eq_some_iff.mp h
  clear h
  have h := h'
  clear h'
  have HR0 := Aside0.mk hr0
  have HC0 := Aside0.mk hc0
  have HOK := Aside0.mk (impl_lettersOk.calls A0 c0 l0 t w hr0 hc0 ht)
  clear hr0 hc0 ht
  cases t with
  | false =>
    cases Option.some.inj h
    clear h
    go_enter Try.func23, Try.ntmps23
    go_wp2_with (go_at_call 65; refine HOK.out.mono ?_; rintro e w1 ⟨rfl, ⟨q1, rfl⟩⟩)
    go_ret
    exact ⟨rfl, pw_below_drewN (Below.refl _ _) _⟩
  | true =>
    rw [if_pos rfl] at h
    by_cases hl : l0.length ≤ 1000 ∧ (l0.all fun x => (impl_RuneBidi.f x).isSome) = true
    · rw [if_pos hl] at h
      have HL := Aside0.mk hl.1
      have HA := Aside0.mk (fun x hx => List.all_eq_true.1 hl.2 x hx)
      have HH := Aside0.mk h
      clear h hl
      go_enter Try.func23, Try.ntmps23
      go_wp2_with (first
        | (go_at_call 65; refine HOK.out.mono ?_; rintro e w1 ⟨rfl, ⟨q1, rfl⟩⟩; have HB1 := Aside0.mk (pw_below_drewN (Below.refl w.heap.size w) q1))
        | (go_at_call 66; refine (paragraphOf_calls A0 c0 l0 _ (Kd.C_below HR0.out HB1.out) HC0.out HL.out HA.out).mono ?_; rintro e w2 ⟨g, b1, b2, vo, st, rfl, hp2, hb2⟩; have HP2 := Aside0.mk hp2; have HB2 := Aside0.mk (below_step HB1.out hb2); clear hp2 hb2)
        | (go_at_call 67; refine (side_calls k l0.length _ b1 b2 g A0 c0 l0 vo st _ r _ HP2.out HL.out (fun q v hq => by have := mtRun_lt (l0.map bdF) 0 [] (fun _ => none) (fun _ _ hh => by cases hh) q v hq; simpa using this) HH.out).mono ?_; rintro e w3 ⟨rfl, hb3⟩; have HB3 := Aside0.mk (below_step HB2.out hb3); clear hb3))
      go_ret
      exact ⟨rfl, HB3.out⟩
    · rw [if_neg hl] at h
      exact absurd h (by simp)


/-- A state of type 95 at block g of W; what its slices lead to came in by w0. -/
def IsS95 (w0 W : World) (g : Nat) (f0 : List Int) (f1 : Int) : Prop := ∃ A0 c0, W.heap[g]? = some (.cells #[.slice A0 f0.length c0, .int .i64 f1] 95 (0, 0)) ∧ w0.heap.size ≤ g ∧ Kd.C (Kd.int .u8) w0 A0 f0.length f0
theorem IsS95.grown {w0 W : World} {g : Nat} {f0 : List Int} {f1 : Int} {W1 : World} {row : Option Nat} (h : IsS95 w0 W g f0 f1) (hw : W.grownBy W1 row) (hne : some g ≠ row) : IsS95 w0 W1 g f0 f1 := by
  obtain ⟨A0, c0, hb, hg, hr0⟩ := h
  exact ⟨A0, c0, blk_grown hb hw hne, hg, hr0⟩
theorem IsS95.own_neN {w0 W : World} {g : Nat} {f0 : List Int} {f1 : Int} {α : Type} {d : Kd α} {e : Nat} {base : Nat} {ok : Nat → Prop} {v : Value} {xs : List α} (h : IsS95 w0 W g f0 f1) (ho : Kd.N d e W base ok v xs) (ht : e ≠ 95) : some g ≠ v.ownBlock := by
  obtain ⟨A0, c0, hb, hg, hr0⟩ := h
  exact Kd.N_ne ho hb ht
theorem IsS95.fresh {w0 W : World} {g : Nat} {f0 : List Int} {f1 : Int} (h : IsS95 w0 W g f0 f1) : ∀ k, W.heap.size ≤ k → k ≠ g := by
  obtain ⟨A0, c0, hb, hg, hr0⟩ := h
  exact Kd.freshB hb
theorem IsS95.kept {w0 W : World} {g : Nat} {f0 : List Int} {f1 : Int} {W1 : World} {S : Nat → Prop} (h : IsS95 w0 W g f0 f1) (hk : Kept W W1 S) (hne : ¬ S g) : IsS95 w0 W1 g f0 f1 := by
  obtain ⟨A0, c0, hb, hg, hr0⟩ := h
  exact ⟨A0, c0, blk_kept hb hk hne, hg, hr0⟩
theorem IsS95.below {w0 W : World} {g : Nat} {f0 : List Int} {f1 : Int} {W1 : World} (h : IsS95 w0 W g f0 f1) (hw : Below W.heap.size W W1) : IsS95 w0 W1 g f0 f1 := h.grown (grown_of_below hw none) (by simp)
theorem IsS95.alloc {w0 W : World} {g : Nat} {f0 : List Int} {f1 : Int} (h : IsS95 w0 W g f0 f1) (o : Obj) : IsS95 w0 (W.alloc o) g f0 f1 := h.below (below_alloc (Below.refl _ _) o)
theorem IsS95.drewN {w0 W : World} {g : Nat} {f0 : List Int} {f1 : Int} (h : IsS95 w0 W g f0 f1) (m : Nat) : IsS95 w0 (W.drewN m) g f0 f1 := h
theorem IsS95.drew {w0 W : World} {g : Nat} {f0 : List Int} {f1 : Int} (h : IsS95 w0 W g f0 f1) : IsS95 w0 W.drew g f0 f1 := h
theorem IsS95.at_ {w0 W : World} {g : Nat} {f0 : List Int} {f1 : Int} {w' : World} {m : Nat} (hq : W.drewN m = w') (h : IsS95 w0 W g f0 f1) : IsS95 w0 w' g f0 f1 := by subst hq; exact IsS95.drewN h m
theorem IsS95.apart {w0 W : World} {g : Nat} {f0 : List Int} {f1 : Int} {α : Type} {d : Kd α} {e : Nat} {base : Nat} {ok : Nat → Prop} {v : Value} {xs : List α} (h : IsS95 w0 W g f0 f1) (ho : d.R e W base ok v xs) (ht : ∀ q, q ∈ e :: d.E → q ≠ 95) : d.R e W base (fun k => ok k ∧ k ≠ g) v xs := by
  obtain ⟨A0, c0, hb, hg, hr0⟩ := h
  exact Kd.R_types ho hb ht
theorem IsS95.own_ne {w0 W : World} {g : Nat} {f0 : List Int} {f1 : Int} {α : Type} {d : Kd α} {e : Nat} {base : Nat} {ok : Nat → Prop} {v : Value} {xs : List α} (h : IsS95 w0 W g f0 f1) (ho : d.R e W base ok v xs) (ht : e ≠ 95) : some g ≠ v.ownBlock := by
  obtain ⟨A0, c0, hb, hg, hr0⟩ := h
  exact Kd.R_ne ho hb ht
theorem IsS95.apartQ {w0 W : World} {g : Nat} {f0 : List Int} {f1 : Int} {α : Type} {d : Kd α} {e : Nat} {base : Nat} {ok : Nat → Prop} {v : Value} {xs : List α} (h : IsS95 w0 W g f0 f1) (ho : d.Q e W base ok v xs) (ht : ∀ q, q ∈ e :: d.E → q ≠ 95) : d.Q e W base (fun k => ok k ∧ k ≠ g) v xs := by
  obtain ⟨A0, c0, hb, hg, hr0⟩ := h
  exact Kd.Q_types ho hb ht
theorem IsS95.own_neQ {w0 W : World} {g : Nat} {f0 : List Int} {f1 : Int} {α : Type} {d : Kd α} {e : Nat} {base : Nat} {ok : Nat → Prop} {v : Value} {xs : List α} (h : IsS95 w0 W g f0 f1) (ho : d.Q e W base ok v xs) (ht : e ≠ 95) : some g ≠ v.ownBlock := by
  obtain ⟨A0, c0, hb, hg, hr0⟩ := h
  exact Kd.Q_ne ho hb ht
theorem IsS95.apartS {w0 W : World} {g : Nat} {f0 : List Int} {f1 : Int} {α : Type} {d : Kd α} {e : Nat} {base : Nat} {ok : Nat → Prop} {v : Value} {xs : List α} (h : IsS95 w0 W g f0 f1) (ho : d.S e W base ok v xs) (ht : ∀ q, q ∈ e :: d.E → q ≠ 95) : d.S e W base (fun k => ok k ∧ k ≠ g) v xs := by
  obtain ⟨A0, c0, hb, hg, hr0⟩ := h
  exact Kd.S_types ho hb ht
theorem IsS95.own_neS {w0 W : World} {g : Nat} {f0 : List Int} {f1 : Int} {α : Type} {d : Kd α} {e : Nat} {base : Nat} {ok : Nat → Prop} {v : Value} {xs : List α} (h : IsS95 w0 W g f0 f1) (ho : d.S e W base ok v xs) (ht : e ≠ 95) : some g ≠ v.ownBlock := by
  obtain ⟨A0, c0, hb, hg, hr0⟩ := h
  exact Kd.S_ne ho hb ht
theorem IsS95.lt {w0 W : World} {g : Nat} {f0 : List Int} {f1 : Int} (h : IsS95 w0 W g f0 f1) : g < W.heap.size := by
  obtain ⟨A0, c0, hb, hg, hr0⟩ := h
  exact blk_lt hb
theorem IsS95.ge {w0 W : World} {g : Nat} {f0 : List Int} {f1 : Int} (h : IsS95 w0 W g f0 f1) : w0.heap.size ≤ g := by
  obtain ⟨A0, c0, hb, hg, hr0⟩ := h
  exact hg
theorem IsS95.ne_blk {w0 W : World} {g : Nat} {f0 : List Int} {f1 : Int} {a : Nat} {cs : Array Value} {t : TypeId} {fr : Nat × Nat} (h : IsS95 w0 W g f0 f1) (hb2 : W.heap[a]? = some (.cells cs t fr)) (ht : t ≠ 95) : g ≠ a := by
  obtain ⟨A0, c0, hb, hg, hr0⟩ := h
  rintro rfl
  rw [hb] at hb2
  injection hb2 with hb2
  injection hb2 with _ ht2
  exact ht ht2.symm
theorem IsS95.far {w0 W : World} {g : Nat} {f0 : List Int} {f1 : Int} {p : Addr} (h : IsS95 w0 W g f0 f1) (hne : g ≠ p.block) (u : Value) : IsS95 w0 (W.setCell p u) g f0 f1 := by
  obtain ⟨A0, c0, hb, hg, hr0⟩ := h
  exact ⟨A0, c0, blk_far hb hne u, hg, hr0⟩
theorem cellS95_0 {W : World} {g : Nat} {A0 : Option Addr} {c0 : Nat} {f0 : List Int} {f1 : Int} (h : W.heap[g]? = some (.cells #[.slice A0 f0.length c0, .int .i64 f1] 95 (0, 0))) : W.cell? ⟨g, 0, none⟩ = some (.slice A0 f0.length c0) := (blk_cell h 0).trans rfl
theorem cellS95_1 {W : World} {g : Nat} {A0 : Option Addr} {c0 : Nat} {f0 : List Int} {f1 : Int} (h : W.heap[g]? = some (.cells #[.slice A0 f0.length c0, .int .i64 f1] 95 (0, 0))) : W.cell? ⟨g, 1, none⟩ = some (.int .i64 f1) := (blk_cell h 1).trans rfl
theorem IsS95.set_1 {w0 W : World} {g : Nat} {f0 : List Int} {f1 : Int} (h : IsS95 w0 W g f0 f1) (x : Int) : IsS95 w0 (W.setCell ⟨g, 1, none⟩ (.int .i64 x)) g f0 x := by
  obtain ⟨A0, c0, hb, hg, hr0⟩ := h
  exact ⟨A0, c0, by simpa using blk_set hb 1 (.int .i64 x), hg, hr0⟩
theorem IsS95.new (w0 W : World) (A0 : Option Addr) (c0 : Nat) (f0 : List Int) (f1 : Int) (hB : Below w0.heap.size w0 W) (hr0 : Kd.C (Kd.int .u8) w0 A0 f0.length f0) : IsS95 w0 (W.alloc (.cells #[.slice A0 f0.length c0, .int .i64 f1] 95)) W.heap.size f0 f1 := ⟨A0, c0, by simpa using heap_alloc_new W _, hB.size, hr0⟩

/-! ### spec_l1Open: function 59 -/
def spec_l1Open.f (l0 : List Int) : Option (List Int × Int) := if (l0.length : Int) > 2000 then (if 2000 ≤ (l0.length : Int) then (some (l0.take 2000, 0)) else (none)) else (some (l0, 0))
set_option maxHeartbeats 8000000 in
set_option maxRecDepth 100000 in
theorem spec_l1Open.calls (A0 : Option Addr) (c0 : Nat) (l0 : List Int) (r1 : List Int) (r2 : Int) (w0 w : World) (hB : Below w0.heap.size w0 w) (hr0 : Kd.C (Kd.int .u8) w0 A0 l0.length l0) (hc0 : l0.length ≤ c0) (h : spec_l1Open.f l0 = some (r1, r2)) :
    Calls Try.prog 59 #[.slice A0 l0.length c0] w fun e w' => ∃ g_ : Nat, e = .returned (.pointer (some ⟨g_, 0, none⟩)) ∧ IsS95 w0 w' g_ r1 r2 ∧ Below w0.heap.size w0 w' ∧ Below w.heap.size w w' := by
  have hu95 := Try.underlying95
  have HR0 := Aside0.mk hr0
  have HC0 := Aside0.mk hc0
  clear hr0 hc0
  have HBW := Aside0.mk (Below.refl w.heap.size w)
  have HW0 := Aside0.mk hB.size
  have HB := Aside0.mk hB
  clear hB
  have H : (if (l0.length : Int) > 2000 then (if 2000 ≤ (l0.length : Int) then (some (l0.take 2000, 0)) else (none)) else (some (l0, 0))) = some (r1, r2) := h
  clear h
  by_cases c2 : (l0.length : Int) > 2000
  · rw [if_pos c2] at H
    have c2b0 : decide (2000 < (l0.length : Int)) = true := decide_eq_true c2
    have c2b1 : decide (2000 < l0.length) = true := decide_eq_true (by omega)
    clear c2
    by_cases c3 : 2000 ≤ (l0.length : Int)
    · rw [if_pos c3] at H
      have c3b0 := eq_true c3
      have c3b1 : decide (2000 ≤ (l0.length : Int)) = true := decide_eq_true c3
      clear c3
      simp only [Option.some.injEq, Prod.mk.injEq] at H
      obtain ⟨rfl, rfl⟩ := H
      obtain ⟨i04, hi04, _, hsz4, _⟩ := info_parts info5
      obtain ⟨hcut4, hA4, hC4⟩ := print_take_of (P := Try.prog) (Value.int .u8) 0 28 5 .i64 Try.underlying28 hi04 hsz4 A0 c0 l0 2000 (by omega) (of_decide_eq_true (by first | (with_reducible assumption) | assumption)) HC0.out
      have HR146 := Aside0.mk (Kd.C_of_reads (h1 := fun _ => rfl) (hA4 _ (Kd.reads_of_C HR0.out)))
      have HC146 := Aside0.mk hC4
      clear hA4 hC4 hi04 hsz4
      go_enter Try.func59, Try.ntmps59
      go_wp2_with (first | ((with_reducible refine gate_dst (N := 10) rfl ?_); refine box_event ?hg (N := 10) ?hd (cs := #[.slice A0 (l0.take 2000).length c0, .int .i64 0]) (t := 95) ?hr ?_; (case hd => rfl); (case hg => rfl); (case hr => first | (go_simp; done) | (go_simp; rfl)); intro gb147 hg w5 hbox hb; have n0_ := Aside0.mk (below_step HBW.out hb); have n1_ := Aside0.mk (below_step (by repeat (first | (with_reducible first | exact HB.out | apply below_alloc | apply pw_below_drewN | apply below_drew1) | exact HB.out)) hb); have n2_ := Aside0.mk (hbox); have n3_ := Aside0.mk ((by rw [hg]; exact (below_size (by repeat (first | (with_reducible first | exact HBW.out | apply below_alloc | apply pw_below_drewN | apply below_drew1) | exact HBW.out))) : w.heap.size ≤ gb147)); have n4_ := Aside0.mk ((Nat.le_trans HW0.out (by rw [hg]; exact (below_size (by repeat (first | (with_reducible first | exact HBW.out | apply below_alloc | apply pw_below_drewN | apply below_drew1) | exact HBW.out))) : w.heap.size ≤ gb147) : w0.heap.size ≤ gb147)); clear HBW; clear HB; have HBW := n0_; have HB := n1_; have BK147 := n2_; have GW147 := n3_; have GE147 := n4_; clear n0_ n1_ n2_ n3_ n4_; clear hb hbox hg))
      go_ret
      exact ⟨_, rfl, (show IsS95 w0 _ gb147 (l0.take 2000) 0 from ⟨_, _, by (with_reducible repeat (first | refine blk_drewN ?_ _ | refine blk_drew ?_ | refine blk_alloc ?_ _)); exact BK147.out, GE147.out, HR146.out⟩), by repeat (first | (with_reducible first | exact HB.out | apply below_alloc | apply pw_below_drewN | apply below_drew1 | refine below_set ?_ GE147.out) | exact HB.out), by repeat (first | (with_reducible first | exact HBW.out | apply below_alloc | apply pw_below_drewN | apply below_drew1 | refine below_set ?_ GW147.out) | exact HBW.out)⟩
    · rw [if_neg c3] at H
      exact absurd H (by simp)
  · rw [if_neg c2] at H
    have c2b0 : decide (2000 < (l0.length : Int)) = false := decide_eq_false c2
    have c2b1 : decide (2000 < l0.length) = false := decide_eq_false (by omega)
    clear c2
    simp only [Option.some.injEq, Prod.mk.injEq] at H
    obtain ⟨rfl, rfl⟩ := H
    go_enter Try.func59, Try.ntmps59
    go_wp2_with (first | ((with_reducible refine gate_dst (N := 10) rfl ?_); refine box_event ?hg (N := 10) ?hd (cs := #[.slice A0 l0.length c0, .int .i64 0]) (t := 95) ?hr ?_; (case hd => rfl); (case hg => rfl); (case hr => first | (go_simp; done) | (go_simp; rfl)); intro gb148 hg w6 hbox hb; have n0_ := Aside0.mk (below_step HBW.out hb); have n1_ := Aside0.mk (below_step (by repeat (first | (with_reducible first | exact HB.out | apply below_alloc | apply pw_below_drewN | apply below_drew1) | exact HB.out)) hb); have n2_ := Aside0.mk (hbox); have n3_ := Aside0.mk ((by rw [hg]; exact (below_size (by repeat (first | (with_reducible first | exact HBW.out | apply below_alloc | apply pw_below_drewN | apply below_drew1) | exact HBW.out))) : w.heap.size ≤ gb148)); have n4_ := Aside0.mk ((Nat.le_trans HW0.out (by rw [hg]; exact (below_size (by repeat (first | (with_reducible first | exact HBW.out | apply below_alloc | apply pw_below_drewN | apply below_drew1) | exact HBW.out))) : w.heap.size ≤ gb148) : w0.heap.size ≤ gb148)); clear HBW; clear HB; have HBW := n0_; have HB := n1_; have BK148 := n2_; have GW148 := n3_; have GE148 := n4_; clear n0_ n1_ n2_ n3_ n4_; clear hb hbox hg))
    go_ret
    exact ⟨_, rfl, (show IsS95 w0 _ gb148 l0 0 from ⟨_, _, by (with_reducible repeat (first | refine blk_drewN ?_ _ | refine blk_drew ?_ | refine blk_alloc ?_ _)); exact BK148.out, GE148.out, HR0.out⟩), by repeat (first | (with_reducible first | exact HB.out | apply below_alloc | apply pw_below_drewN | apply below_drew1 | refine below_set ?_ GE148.out) | exact HB.out), by repeat (first | (with_reducible first | exact HBW.out | apply below_alloc | apply pw_below_drewN | apply below_drew1 | refine below_set ?_ GW148.out) | exact HBW.out)⟩

end Go.Proofs.Ytkapjhlcmicpnaa.PFnLevelBase
