-- Written by a program of this session (wip/tools) out of the translation; its shape is that of the kit print.
import Derived.Test.YtmjhdgofepdgkaaPFnExactLevelMatesx0
import Derived.Test.YtmjhdgofepdgkaaPFnExactLevelMatesx4
import Derived.Test.YtmjhdgofepdgkaaPFnExactLevelMatesx5
namespace Go.Proofs.Ytmjhdgofepdgkaa.PFnExactLevelMates
open Go.RowKit Go.Proofs.YtmjhdgofepdgkaaW.PrintWords Go.Proofs.YtmjhdgofepdgkaaW.PrintLast Go.Proofs.YtmjhdgofepdgkaaW.PrintMore
attribute [local go_sem] max2_int min2_int max_two min_two max_three min_three max_four min_four   -- for this text's walks alone
set_option linter.unusedVariables false
set_option linter.unusedSimpArgs false

/-! ### a row of rows, sorted by where each begins -/
def pairsOk (xs : List (List Int)) : Prop := xs.length ≤ 1000000 ∧ (∀ x ∈ xs, 1 ≤ x.length ∧ 0 ≤ rd x 0 ∧ rd x 0 < 1099511627776) ∧ (xs.map fun x => rd x 0).Nodup
instance (xs : List (List Int)) : Decidable (pairsOk xs) := by unfold pairsOk; infer_instance
def sortR (xs : List (List Int)) : Option (List (List Int)) := if pairsOk xs then some (xs.mergeSort fun a b => decide (rd a 0 ≤ rd b 0)) else none
section
variable {α : Type} [Inhabited α]
theorem sw_heap (enc : α → Value) (w : World) (g m : Nat) (D : Array α) (os : Array Obj) : (sortWorld enc w g 0 m D os).heap = w.heap.modify g (Go.Sort.onCells (Go.Sort.putCells enc 0 D)) ++ os := rfl
theorem sw_block (enc : α → Value) (w : World) (g m t : Nat) (D : Array α) (os : Array Obj) {cur : Array Value} (hg : w.heap[g]? = some (.cells cur t (0, 0))) : (sortWorld enc w g 0 m D os).heap[g]? = some (.cells (Go.Sort.putCells enc 0 D cur) t (0, 0)) := by
  have hlt := blk_lt hg
  rw [sw_heap, Array.getElem?_append_left (by simpa using hlt), Array.getElem?_modify, if_pos rfl, hg]
  rfl
theorem sw_other (enc : α → Value) (w : World) (g m : Nat) (D : Array α) (os : Array Obj) (k : Nat) (hk : k < w.heap.size) (hne : k ≠ g) : (sortWorld enc w g 0 m D os).heap[k]? = w.heap[k]? := by
  rw [sw_heap, Array.getElem?_append_left (by simpa using hk), Array.getElem?_modify, if_neg (fun e => hne e.symm)]
theorem sw_below (enc : α → Value) (w : World) (g m n0 : Nat) (D : Array α) (os : Array Obj) (hn : n0 ≤ g) (hg : g < w.heap.size) : Below n0 w (sortWorld enc w g 0 m D os) :=
  ⟨rfl, rfl, rfl, by rw [sw_heap]; simp, fun k hk => sw_other enc w g m D os k (by omega) (by omega)⟩
theorem put_take (enc : α → Value) (D : Array α) (cur : Array Value) (h : D.size ≤ cur.size) : (Go.Sort.putCells enc 0 D cur).toList.take D.size = D.toList.map enc := by
  apply List.ext_getElem?
  intro i
  unfold Go.Sort.putCells
  rw [List.getElem?_take, List.getElem?_map]
  by_cases hi : i < D.size
  · rw [if_pos hi]
    simp [hi, Array.getElem?_eq_getElem (show i < cur.size by omega), getElem!_pos D i hi]
  · rw [if_neg hi]
    simp [hi]
theorem put_size (enc : α → Value) (D : Array α) (cur : Array Value) : (Go.Sort.putCells enc 0 D cur).size = cur.size := by
  unfold Go.Sort.putCells; simp
end
set_option maxHeartbeats 4000000 in
/-- the closure: by where the two begin -/
theorem clos (b0 b1 : Nat) (c0 c1 : Nat) (x y : List Int) (W : World) (hx : Kd.C (Kd.int .i64) W (some ⟨b0, 0, none⟩) x.length x) (hy : Kd.C (Kd.int .i64) W (some ⟨b1, 0, none⟩) y.length y) (h1 : 1 ≤ x.length) (h2 : 1 ≤ y.length) :
    Calls Try.prog 85 #[.slice (some ⟨b0, 0, none⟩) x.length c0, .slice (some ⟨b1, 0, none⟩) y.length c1] W fun e w' => e = .returned (.int .i64 (wrap64 (rd x 0 - rd y 0))) ∧ ∃ q, w' = W.drewN q := by
  have hu22 := Try.underlying22
  have hx0 : W.cell? ⟨b0, 0, none⟩ = some (.int .i64 (rd x 0)) := by
    obtain ⟨a0, e0, h⟩ := Kd.at_int hx 0 (by omega) (by omega)
    cases e0
    exact h
  have hy0 : W.cell? ⟨b1, 0, none⟩ = some (.int .i64 (rd y 0)) := by
    obtain ⟨a0, e0, h⟩ := Kd.at_int hy 0 (by omega) (by omega)
    cases e0
    exact h
  have hp : (0 : Int) < (x.length : Int) := by omega
  have hq : (0 : Int) < (y.length : Int) := by omega
  generalize rd x 0 = p at hx0 ⊢
  generalize rd y 0 = q at hy0 ⊢
  clear hx hy
  go_enter Try.func85, Try.ntmps85
  go_wp2
  go_region
  all_goals (try go_wp2)
  go_ret
  exact ⟨rfl, 1, rfl⟩

/-- the row behind the sort -/
theorem sort_done (w : World) (n0 g cap : Nat) (okp : Nat → Prop) (xs : List (List Int)) (cur : Array Value) (f : Nat → Nat) (P : Fin xs.length → Nat × Nat) [Inhabited (Fin xs.length)] (hbg : n0 ≤ g) (hg : w.heap[g]? = some (.cells cur 22 (0, 0))) (hgl : g < w.heap.size) (hnc : xs.length ≤ cap) (hcm : cap ≤ maxLen) (hcs : cur.size = cap * 1) (h0 : ∀ k, (Value.slice (some ⟨g, 0, none⟩) xs.length cap).ownBlock = some k → okp k)
    (hP : ∀ j : Fin xs.length, Kd.R (Kd.int .i64) 3 w n0 (fun k => (okp k ∧ some k ≠ some g) ∧ f k = j.1) (.slice (some ⟨(P j).1, 0, none⟩) xs[j.1].length (P j).2) xs[j.1]) (m : Nat) (os : Array Obj) (D : List (Fin xs.length))
    (hD : D = (Array.ofFn (n := xs.length) id).toList.mergeSort fun x y => !(ltOf (fun i j : Fin xs.length => rd xs[i.1] 0 - rd xs[j.1] 0)) y x) :
    Ending.returned (.tuple #[]) = .returned (.tuple #[]) ∧ Kd.S (Kd.slice 3 (Kd.int .i64)) 22 (sortWorld (fun j : Fin xs.length => Value.slice (some ⟨(P j).1, 0, none⟩) xs[j.1].length (P j).2) w g 0 m D.toArray os) n0 okp (.slice (some ⟨g, 0, none⟩) xs.length cap) (xs.mergeSort fun a b => decide (rd a 0 ≤ rd b 0)) ∧ Below n0 w (sortWorld (fun j : Fin xs.length => Value.slice (some ⟨(P j).1, 0, none⟩) xs[j.1].length (P j).2) w g 0 m D.toArray os) := by
  have hys : (xs.mergeSort fun a b => decide (rd a 0 ≤ rd b 0)) = D.map fun j => xs[j.1] := by
    rw [hD, List.map_mergeSort (s := fun a b => decide (rd a 0 ≤ rd b 0))]
    · congr 1
      rw [Array.toList_ofFn]
      apply List.ext_getElem
      · simp
      · intro i h1 h2
        simp
    · intro a _ b _
      unfold ltOf
      rw [Bool.eq_iff_iff]
      simp
  have hperm : D.Perm (Array.ofFn (n := xs.length) id).toList := by rw [hD]; exact List.mergeSort_perm _ _
  have hDl : D.length = xs.length := by rw [hperm.length_eq]; simp
  have hDn : D.Nodup := by
    rw [hperm.nodup_iff, Array.toList_ofFn]
    refine List.nodup_iff_pairwise_ne.2 ?_
    rw [List.pairwise_iff_getElem]
    intro i j hi hj hij e
    simp at e
    omega
  clear hD hperm
  have hmove : ∀ (W : World), (∀ k, k < w.heap.size → k ≠ g → W.heap[k]? = w.heap[k]?) → ∀ j : Fin xs.length, Kd.R (Kd.int .i64) 3 W n0 (fun k => (okp k ∧ some k ≠ some g) ∧ f k = j.1) (.slice (some ⟨(P j).1, 0, none⟩) xs[j.1].length (P j).2) xs[j.1] := fun W hW j =>
    Kd.R_step (hP j) (fun k hk hlt => hW k hlt (fun e => hk.1.2 (by rw [e])))
  refine ⟨rfl, ?_, sw_below _ w g m n0 _ os hbg hgl⟩
  rw [hys]
  refine ⟨fun k => (D.map (fun j => j.1)).idxOf (f k), h0, D.map (fun j : Fin xs.length => Value.slice (some ⟨(P j).1, 0, none⟩) xs[j.1].length (P j).2), ?_, ?_⟩
  · have hl : (D.map fun j => xs[j.1]).zipIdx.length = xs.length := by simp [hDl]
    rw [hl]
    refine ⟨by show _ = xs.length * 1; simp [hDl], .inr ⟨g, cap, _, rfl, hbg, sw_block _ w g m 22 D.toArray os hg, hnc, hcm, ?_, ?_⟩⟩
    · rw [put_size]; exact hcs
    · have := put_take (fun j : Fin xs.length => Value.slice (some ⟨(P j).1, 0, none⟩) xs[j.1].length (P j).2) D.toArray cur (by simp [hDl]; omega)
      rw [show xs.length * (Kd.tag (fun k => (D.map (fun j => j.1)).idxOf (f k)) (Kd.slice 3 (Kd.int .i64))).sz = D.toArray.size from by show xs.length * 1 = _; simp [hDl], this]
  · refine ⟨by simp [hDl]; show _ = _ * 1; simp [hDl], ?_⟩
    rintro j ⟨x, i⟩ hj
    rw [List.getElem?_zipIdx, Nat.zero_add] at hj
    have hjl : j < D.length := by
      by_cases hh : j < D.length
      · exact hh
      · rw [List.getElem?_eq_none (by simp; omega)] at hj
        simp at hj
    rw [List.getElem?_map, List.getElem?_eq_getElem hjl] at hj
    simp only [Option.map_some, Option.some.injEq, Prod.mk.injEq] at hj
    obtain ⟨rfl, rfl⟩ := hj
    refine ⟨Value.slice (some ⟨(P D[j]).1, 0, none⟩) xs[D[j].1].length (P D[j]).2, ?_, ?_⟩
    · show List.take 1 (List.drop (j * 1) _) = _
      rw [Nat.mul_one, List.drop_eq_getElem_cons (by simpa using hjl)]
      simp
    · refine Kd.R_mono (hmove _ (fun k hk hne => sw_other _ w g m _ os k hk hne) D[j]) (fun k hk => ⟨⟨hk.1.1, hk.1.2⟩, ?_⟩)
      show List.idxOf (f k) _ = j
      rw [hk.2]
      have hnd : (D.map fun j : Fin xs.length => j.1).Nodup := by
        rw [List.nodup_iff_pairwise_ne, List.pairwise_map]
        exact (List.nodup_iff_pairwise_ne.1 hDn).imp (fun h e => h (Fin.ext e))
      have := hnd.idxOf_getElem j (by simpa using hjl)
      simpa using this

def sortP_ren : Go.Shelf.Ren := ⟨fun | 6 => 84 | 15 => 124 | 14 => 123 | 28 => 157 | 29 => 158 | 20 => 149 | 21 => 150 | 22 => 151 | 23 => 152 | 24 => 153 | 25 => 154 | 26 => 155 | 27 => 156 | 46 => 166 | 47 => 167 | 48 => 168 | 49 => 169 | 50 => 170 | 57 => 172 | n => n, fun | 22 => 48 | 24 => 22 | 25 => 74 | 3 => 3 | 39 => 103 | 0 => 0 | 53 => 124 | 55 => 126 | 4 => 4 | 46 => 118 | 45 => 117 | 50 => 54 | 5 => 5 | 9 => 9 | 66 => 131 | 70 => 135 | 76 => 137 | 77 => 37 | n => n, fun | n => n⟩
theorem sortP : Go.Proofs.SlLaysF.n6 Try.prog sortP_ren := {
  mixed := by kernel_rfl
  f6 := ⟨Try.f84.name, by decide, Try.func84.trans (congrArg some (by kernel_rfl))⟩
  f14 := ⟨Try.f123.name, by decide, Try.func123.trans (congrArg some (by kernel_rfl))⟩
  f15 := Try.func124.trans (congrArg some (by kernel_rfl))
  f20 := ⟨Try.f149.name, by decide, Try.func149.trans (congrArg some (by kernel_rfl))⟩
  f21 := ⟨Try.f150.name, by decide, Try.func150.trans (congrArg some (by kernel_rfl))⟩
  f22 := ⟨Try.f151.name, by decide, Try.func151.trans (congrArg some (by kernel_rfl))⟩
  f23 := ⟨Try.f152.name, by decide, Try.func152.trans (congrArg some (by kernel_rfl))⟩
  f24 := ⟨Try.f153.name, by decide, Try.func153.trans (congrArg some (by kernel_rfl))⟩
  f25 := ⟨Try.f154.name, by decide, Try.func154.trans (congrArg some (by kernel_rfl))⟩
  f26 := ⟨Try.f155.name, by decide, Try.func155.trans (congrArg some (by kernel_rfl))⟩
  f27 := ⟨Try.f156.name, by decide, Try.func156.trans (congrArg some (by kernel_rfl))⟩
  f28 := Try.func157.trans (congrArg some (by kernel_rfl))
  f29 := Try.func158.trans (congrArg some (by kernel_rfl))
  f46 := ⟨Try.f166.name, by decide, Try.func166.trans (congrArg some (by kernel_rfl))⟩
  f47 := Try.func167.trans (congrArg some (by kernel_rfl))
  f48 := Try.func168.trans (congrArg some (by kernel_rfl))
  f49 := ⟨Try.f169.name, by decide, Try.func169.trans (congrArg some (by kernel_rfl))⟩
  f50 := ⟨Try.f170.name, by decide, Try.func170.trans (congrArg some (by kernel_rfl))⟩
  f57 := ⟨Try.f172.name, by decide, Try.func172.trans (congrArg some (by kernel_rfl))⟩
  t0 := Try.underlying0
  a0 := Try.isAgg0
  z0 := Try.sizeOf0
  v0 := Try.zeroValue0
  t3 := Try.underlying3
  a3 := Try.isAgg3
  z3 := Try.sizeOf3
  v3 := Try.zeroValue3
  t4 := Try.underlying4
  a4 := Try.isAgg4
  z4 := Try.sizeOf4
  v4 := Try.zeroValue4
  t5 := Try.underlying5
  a5 := Try.isAgg5
  z5 := Try.sizeOf5
  v5 := Try.zeroValue5
  t9 := Try.underlying9
  a9 := Try.isAgg9
  z9 := Try.sizeOf9
  v9 := Try.zeroValue9
  t22 := Try.underlying48
  a22 := Try.isAgg48
  z22 := Try.sizeOf48
  v22 := Try.zeroValue48
  a24 := Try.isAgg22
  z24 := Try.sizeOf22
  t25 := Try.underlying74
  a25 := Try.isAgg74
  z25 := Try.sizeOf74
  v25 := Try.zeroValue74
  t39 := Try.underlying103
  a39 := Try.isAgg103
  z39 := Try.sizeOf103
  v39 := Try.zeroValue103
  t45 := Try.underlying117
  a45 := Try.isAgg117
  z45 := Try.sizeOf117
  v45 := Try.zeroValue117
  t46 := Try.underlying118
  a46 := Try.isAgg118
  z46 := Try.sizeOf118
  v46 := Try.zeroValue118
  t50 := Try.underlying54
  a50 := Try.isAgg54
  z50 := Try.sizeOf54
  v50 := Try.zeroValue54
  t53 := Try.underlying124
  a53 := Try.isAgg124
  z53 := Try.sizeOf124
  v53 := Try.zeroValue124
  t55 := Try.underlying126
  a55 := Try.isAgg126
  z55 := Try.sizeOf126
  v55 := Try.zeroValue126
  t66 := Try.underlying131
  a66 := Try.isAgg131
  z66 := Try.sizeOf131
  v66 := Try.zeroValue131
  t70 := Try.underlying135
  a70 := Try.isAgg135
  z70 := Try.sizeOf135
  v70 := Try.zeroValue135
  t76 := Try.underlying137
  a76 := Try.isAgg137
  z76 := Try.sizeOf137
  v76 := Try.zeroValue137
  t77 := Try.underlying37
  a77 := Try.isAgg37
  z77 := Try.sizeOf37
  v77 := Try.zeroValue37 }
set_option maxHeartbeats 4000000 in
theorem sort_calls (w : World) (n0 : Nat) (okp : Nat → Prop) (v : Value) (xs ys : List (List Int)) (h : Kd.S (Kd.slice 3 (Kd.int .i64)) 22 w n0 okp v xs) (hs : sortR xs = some ys) :
    Calls Try.prog 84 #[v, .func (.func 85) #[] #[]] w fun e w' => e = .returned (.tuple #[]) ∧ Kd.S (Kd.slice 3 (Kd.int .i64)) 22 w' n0 okp v ys ∧ Below n0 w w' := by
  unfold sortR at hs
  by_cases hp : pairsOk xs
  · rw [if_pos hp] at hs
    obtain rfl := Option.some.inj hs
    clear hs
    obtain ⟨hlen, hall, hnd⟩ := hp
    have h' := h
    obtain ⟨f, h0, inner, ho, hr⟩ := h
    rw [List.length_zipIdx] at ho
    by_cases hx : xs.length = 0
    · obtain rfl := List.eq_nil_of_length_eq_zero hx
      have hv : ∃ A c, v = .slice A 0 c := by
        rcases ho.2 with ⟨rfl, _⟩ | ⟨g, cap, cur, rfl, _⟩
        · exact ⟨_, _, rfl⟩
        · exact ⟨_, _, rfl⟩
      obtain ⟨A, c, rfl⟩ := hv
      have hcon := AnyF.slices_SortFunc_none { sortP with } A c (.func (.func 85) #[] #[]) w
      change Calls Try.prog 84 _ _ _ at hcon
      refine hcon.mono ?_
      rintro e w' ⟨rfl, rfl⟩
      exact ⟨rfl, by simpa using h', Below.refl _ _⟩
    · obtain ⟨hil, ho⟩ := ho
      rcases ho with ⟨_, e0⟩ | ⟨g, cap, cur, rfl, hbg, hg, hnc, hcm, hcs, hct⟩
      · exact absurd e0 hx
      have hgl := blk_lt hg
      rw [show (Kd.tag f (Kd.slice 3 (Kd.int .i64))).sz = 1 from rfl, Nat.mul_one] at hct hcs
      have hinh : Inhabited (Fin xs.length) := ⟨⟨0, by omega⟩⟩
      have hel : ∀ j : Fin xs.length, ∃ p : Nat × Nat, inner[j.1]? = some (.slice (some ⟨p.1, 0, none⟩) xs[j.1].length p.2) ∧ Kd.R (Kd.int .i64) 3 w n0 (fun k => (okp k ∧ some k ≠ some g) ∧ f k = j.1) (.slice (some ⟨p.1, 0, none⟩) xs[j.1].length p.2) xs[j.1] := by
        intro j
        obtain ⟨u, hu, hR⟩ := hr.2 j.1 (xs[j.1], j.1) (Kd.zip_at (List.getElem?_eq_getElem j.2))
        obtain ⟨b, cb, e, _⟩ := Kd.R_form hR (by have := (hall xs[j.1] (List.getElem_mem _)).1; show 0 < xs[j.1].length; omega)
        subst e
        refine ⟨(b, cb), ?_, hR⟩
        have h1 : ((inner.drop (j.1 * 1)).take 1)[0]? = some (Value.slice (some ⟨b, 0, none⟩) xs[j.1].length cb) := by
          have : (Kd.tag f (Kd.slice 3 (Kd.int .i64))).sz = 1 := rfl
          rw [this] at hu
          rw [hu]
          rfl
        rw [List.getElem?_take, if_pos (by omega), List.getElem?_drop] at h1
        simpa using h1
      obtain ⟨P, hP⟩ := Classical.skolem.1 hel
      clear hel
      have hmove : ∀ (W : World), (∀ k, k < w.heap.size → k ≠ g → W.heap[k]? = w.heap[k]?) → ∀ j : Fin xs.length, Kd.R (Kd.int .i64) 3 W n0 (fun k => (okp k ∧ some k ≠ some g) ∧ f k = j.1) (.slice (some ⟨(P j).1, 0, none⟩) xs[j.1].length (P j).2) xs[j.1] := fun W hW j =>
        Kd.R_step (hP j).2 (fun k hk hlt => hW k hlt (fun e => hk.1.2 (by rw [e])))
      have hsz : (Array.ofFn (n := xs.length) id).size = xs.length := by simp
      have hcell : ∀ j, (hj : j < xs.length) → cur[j]? = some (.slice (some ⟨(P ⟨j, hj⟩).1, 0, none⟩) xs[j].length (P ⟨j, hj⟩).2) := by
        intro j hj
        have h1 := (hP ⟨j, hj⟩).1
        rw [← hct, List.getElem?_take, if_pos (by omega), Array.getElem?_toList] at h1
        exact h1
      have hH : Go.Sort.Holds (fun j : Fin xs.length => Value.slice (some ⟨(P j).1, 0, none⟩) xs[j.1].length (P j).2) w g 0 (Array.ofFn (n := xs.length) id) := by
        intro j hj
        rw [hsz] at hj
        rw [getElem!_pos _ j (by simpa using hj), Nat.zero_add]
        refine ⟨?_, ?_⟩
        · rw [blk_cell hg j, hcell j hj]
          simp
        · exact blk_frozen hg j
      have eg : ∀ args w, (callFunc 85 args).run Try.prog w = .ok (.enter 85 args) w := enters_of Try.func85 (by kernel_rfl) rfl
      have hb : ∀ j : Fin xs.length, 0 ≤ rd xs[j.1] 0 ∧ rd xs[j.1] 0 < 1099511627776 := fun j => (hall _ (List.getElem_mem _)).2
      have hcmp : CmpReads Try.prog 85 #[] (fun j : Fin xs.length => Value.slice (some ⟨(P j).1, 0, none⟩) xs[j.1].length (P j).2) (fun i j => rd xs[i.1] 0 - rd xs[j.1] 0) g 0 (Array.ofFn (n := xs.length) id).size w := by
        intro m os dk hs x y
        have hW := sw_other (fun j : Fin xs.length => Value.slice (some ⟨(P j).1, 0, none⟩) xs[j.1].length (P j).2) w g m dk os
        have hc := clos (P x).1 (P y).1 (P x).2 (P y).2 xs[x.1] xs[y.1] _ (Kd.R_reads' (hmove _ hW x)).2.2 (Kd.R_reads' (hmove _ hW y)).2.2 (hall _ (List.getElem_mem _)).1 (hall _ (List.getElem_mem _)).1
        refine hc.mono ?_
        rintro e w' ⟨rfl, hq⟩
        refine ⟨?_, hq⟩
        have h1 := hb x
        have h2 := hb y
        rw [show wrap64 (rd xs[x.1] 0 - rd xs[y.1] 0) = rd xs[x.1] 0 - rd xs[y.1] 0 from by unfold wrap64; omega]
      have hO : Go.Sort.SWO (ltOf (fun i j : Fin xs.length => rd xs[i.1] 0 - rd xs[j.1] 0)) := by
        refine ⟨fun x => ?_, fun x y z h1 h2 => ?_, fun x y z h1 h2 => ?_⟩ <;> simp only [ltOf, decide_eq_true_eq, decide_eq_false_iff_not] at * <;> omega
      have hT : ∀ x y, (ltOf (fun i j : Fin xs.length => rd xs[i.1] 0 - rd xs[j.1] 0)) x y = false → (ltOf (fun i j : Fin xs.length => rd xs[i.1] 0 - rd xs[j.1] 0)) y x = false → x = y := by
        intro x y h1 h2
        simp only [ltOf, decide_eq_false_iff_not] at h1 h2
        have h3 : rd xs[x.1] 0 = rd xs[y.1] 0 := by omega
        have h4 : (xs.map fun x => rd x 0)[x.1]'(by simp) = (xs.map fun x => rd x 0)[y.1]'(by simp) := by simpa using h3
        have g1 := hnd.idxOf_getElem x.1 (by simp)
        have g2 := hnd.idxOf_getElem y.1 (by simp)
        rw [h4] at g1
        exact Fin.ext (g1.symm.trans g2)
      have hcon := Any.slices_SortFunc_total sortP _ (fun _ => rfl) _ hO 85 #[] g 0 cap (Array.ofFn (n := xs.length) id) w eg hcmp.lays hH hgl (by rw [hsz]; omega) hT
      change Calls Try.prog 84 _ _ _ at hcon
      rw [hsz] at hcon
      refine hcon.mono ?_
      clear hcon
      rintro e w' ⟨rfl, m, os, rfl⟩
      exact sort_done w n0 g cap okp xs cur f P hbg hg hgl hnc hcm (by rw [hcs, Nat.mul_one]) h0 (fun j => (hP j).2) m os _ rfl
  · rw [if_neg hp] at hs
    exact absurd hs (by simp)

mutual
def impl_LevelMates.j0 : Nat → List Int → List Int → Bool → Option ((List (List Int)))
  | 0, _, _, _ => none
  | k + 1, x0, x1, x25 => if x25 = true then (some ([] : List (List Int))) else (impl_LevelMates.l0 k x0 x1 ([] : List Int) ([] : List (List Int)) x0 (x0.length : Int) 0)
def impl_LevelMates.l0 : Nat → List Int → List Int → List Int → List (List Int) → List Int → Int → Int → Option ((List (List Int)))
  | 0, _, _, _, _, _, _, _ => none
  | k + 1, x0, x1, x5, x6, x26, x27, x28 => if x28 < x27 then (if 0 ≤ x28 then (if x28 < (x26.length : Int) then ((impl_RuneMate.f (rd x26 x28)).bind fun t213 => (if t213 = 0 then (impl_LevelMates.j2 k x0 x1 x5 x6 x28 (rd x26 x28) t213 x26 x27 x28 true) else (if x28 < (x1.length : Int) then (impl_LevelMates.j2 k x0 x1 x5 x6 x28 (rd x26 x28) t213 x26 x27 x28 ((rd x1 x28) != 13)) else (none)))) else (none)) else (none)) else (sortR x6)
def impl_LevelMates.j2 : Nat → List Int → List Int → List Int → List (List Int) → Int → Int → Int → List Int → Int → Int → Bool → Option ((List (List Int)))
  | 0, _, _, _, _, _, _, _, _, _, _, _ => none
  | k + 1, x0, x1, x5, x6, x7, x8, x9, x26, x27, x28, x43 => if x43 = true then (impl_LevelMates.l0 k x0 x1 x5 x6 x26 x27 (wrap64 (x28 + 1))) else (if x8 < x9 then (if x5.length < 17592186044416 then (impl_LevelMates.l0 k x0 x1 (x5 ++ [x7]) x6 x26 x27 (wrap64 (x28 + 1))) else (none)) else (impl_LevelMates.l1 k x0 x1 x5 x6 x7 x9 (wrap64 ((x5.length : Int) - 1)) x26 x27 x28))
def impl_LevelMates.l1 : Nat → List Int → List Int → List Int → List (List Int) → Int → Int → Int → List Int → Int → Int → Option ((List (List Int)))
  | 0, _, _, _, _, _, _, _, _, _, _ => none
  | k + 1, x0, x1, x5, x6, x7, x9, x10, x26, x27, x28 => if x10 ≥ 0 then (if 0 ≤ x10 then (if x10 < (x5.length : Int) then (if 0 ≤ (rd x5 x10) then (if (rd x5 x10) < (x0.length : Int) then (if (rd x0 (rd x5 x10)) = x9 then (if x6.length < 5864062014805 then (if x10 ≤ (x5.length : Int) then (impl_LevelMates.l0 k x0 x1 (x5.take (x10 : Int).toNat) (x6 ++ [(([rd x5 x10, x7] : List Int))]) x26 x27 (wrap64 (x28 + 1))) else (none)) else (none)) else (impl_LevelMates.l1 k x0 x1 x5 x6 x7 x9 (wrap64 (x10 - 1)) x26 x27 x28)) else (none)) else (none)) else (none)) else (none)) else (impl_LevelMates.l0 k x0 x1 x5 x6 x26 x27 (wrap64 (x28 + 1)))
end
def impl_LevelMates.f (k : Nat) (l0 : List Int) (l1 : List Int) : Option ((List (List Int))) := (impl_lettersOk.f l0).bind fun t210 => (if t210 = true then (if (l1.length : Int) = (l0.length : Int) then ((impl_classesOk.f l1).bind fun t211 => (impl_LevelMates.j0 k l0 l1 (!t211))) else (impl_LevelMates.j0 k l0 l1 true)) else (impl_LevelMates.j0 k l0 l1 true))
theorem impl_LevelMates.mono_l : ∀ k, (∀ y0 y1 y2, LeO (impl_LevelMates.j0 k y0 y1 y2) (impl_LevelMates.j0 (k + 1) y0 y1 y2)) ∧ (∀ y0 y1 y2 y3 y4 y5 y6, LeO (impl_LevelMates.l0 k y0 y1 y2 y3 y4 y5 y6) (impl_LevelMates.l0 (k + 1) y0 y1 y2 y3 y4 y5 y6)) ∧ (∀ y0 y1 y2 y3 y4 y5 y6 y7 y8 y9 y10, LeO (impl_LevelMates.j2 k y0 y1 y2 y3 y4 y5 y6 y7 y8 y9 y10) (impl_LevelMates.j2 (k + 1) y0 y1 y2 y3 y4 y5 y6 y7 y8 y9 y10)) ∧ (∀ y0 y1 y2 y3 y4 y5 y6 y7 y8 y9, LeO (impl_LevelMates.l1 k y0 y1 y2 y3 y4 y5 y6 y7 y8 y9) (impl_LevelMates.l1 (k + 1) y0 y1 y2 y3 y4 y5 y6 y7 y8 y9))
  | 0 => ⟨fun _ _ _ r h => by simp [impl_LevelMates.j0] at h, fun _ _ _ _ _ _ _ r h => by simp [impl_LevelMates.l0] at h, fun _ _ _ _ _ _ _ _ _ _ _ r h => by simp [impl_LevelMates.j2] at h, fun _ _ _ _ _ _ _ _ _ _ r h => by simp [impl_LevelMates.l1] at h⟩
  | k + 1 => by
    obtain ⟨ih0, ih1, ih2, ih3⟩ := impl_LevelMates.mono_l k
    refine ⟨?_, ?_, ?_, ?_⟩
    · intro y0 y1 y2
      unfold impl_LevelMates.j0
      repeat' first
      | (with_reducible exact ih0 _ _ _)
      | (with_reducible exact ih1 _ _ _ _ _ _ _)
      | (with_reducible exact ih2 _ _ _ _ _ _ _ _ _ _ _)
      | (with_reducible exact ih3 _ _ _ _ _ _ _ _ _ _)
      | (with_reducible exact LeO.refl _)
      | (with_reducible exact LeO.none _)
      | (with_reducible refine LeO.ite ?_ ?_)
      | (with_reducible refine LeO.bind ?_ (fun _ => ?_))
      | exact ih0 _ _ _
      | exact ih1 _ _ _ _ _ _ _
      | exact ih2 _ _ _ _ _ _ _ _ _ _ _
      | exact ih3 _ _ _ _ _ _ _ _ _ _
      | exact LeO.none _
      | refine LeO.ite ?_ ?_
      | refine LeO.bind ?_ (fun _ => ?_)
    · intro y0 y1 y2 y3 y4 y5 y6
      unfold impl_LevelMates.l0
      repeat' first
      | (with_reducible exact ih0 _ _ _)
      | (with_reducible exact ih1 _ _ _ _ _ _ _)
      | (with_reducible exact ih2 _ _ _ _ _ _ _ _ _ _ _)
      | (with_reducible exact ih3 _ _ _ _ _ _ _ _ _ _)
      | (with_reducible exact LeO.refl _)
      | (with_reducible exact LeO.none _)
      | (with_reducible refine LeO.ite ?_ ?_)
      | (with_reducible refine LeO.bind ?_ (fun _ => ?_))
      | exact ih0 _ _ _
      | exact ih1 _ _ _ _ _ _ _
      | exact ih2 _ _ _ _ _ _ _ _ _ _ _
      | exact ih3 _ _ _ _ _ _ _ _ _ _
      | exact LeO.none _
      | refine LeO.ite ?_ ?_
      | refine LeO.bind ?_ (fun _ => ?_)
    · intro y0 y1 y2 y3 y4 y5 y6 y7 y8 y9 y10
      unfold impl_LevelMates.j2
      repeat' first
      | (with_reducible exact ih0 _ _ _)
      | (with_reducible exact ih1 _ _ _ _ _ _ _)
      | (with_reducible exact ih2 _ _ _ _ _ _ _ _ _ _ _)
      | (with_reducible exact ih3 _ _ _ _ _ _ _ _ _ _)
      | (with_reducible exact LeO.refl _)
      | (with_reducible exact LeO.none _)
      | (with_reducible refine LeO.ite ?_ ?_)
      | (with_reducible refine LeO.bind ?_ (fun _ => ?_))
      | exact ih0 _ _ _
      | exact ih1 _ _ _ _ _ _ _
      | exact ih2 _ _ _ _ _ _ _ _ _ _ _
      | exact ih3 _ _ _ _ _ _ _ _ _ _
      | exact LeO.none _
      | refine LeO.ite ?_ ?_
      | refine LeO.bind ?_ (fun _ => ?_)
    · intro y0 y1 y2 y3 y4 y5 y6 y7 y8 y9
      unfold impl_LevelMates.l1
      repeat' first
      | (with_reducible exact ih0 _ _ _)
      | (with_reducible exact ih1 _ _ _ _ _ _ _)
      | (with_reducible exact ih2 _ _ _ _ _ _ _ _ _ _ _)
      | (with_reducible exact ih3 _ _ _ _ _ _ _ _ _ _)
      | (with_reducible exact LeO.refl _)
      | (with_reducible exact LeO.none _)
      | (with_reducible refine LeO.ite ?_ ?_)
      | (with_reducible refine LeO.bind ?_ (fun _ => ?_))
      | exact ih0 _ _ _
      | exact ih1 _ _ _ _ _ _ _
      | exact ih2 _ _ _ _ _ _ _ _ _ _ _
      | exact ih3 _ _ _ _ _ _ _ _ _ _
      | exact LeO.none _
      | refine LeO.ite ?_ ?_
      | refine LeO.bind ?_ (fun _ => ?_)
theorem impl_LevelMates.mono : ∀ a0 a1 k, LeO (impl_LevelMates.f k a0 a1) (impl_LevelMates.f (k + 1) a0 a1) := by
  intro a0 a1 k
  obtain ⟨ih0, ih1, ih2, ih3⟩ := impl_LevelMates.mono_l k
  unfold impl_LevelMates.f
  repeat' first
      | (with_reducible exact ih0 _ _ _)
      | (with_reducible exact ih1 _ _ _ _ _ _ _)
      | (with_reducible exact ih2 _ _ _ _ _ _ _ _ _ _ _)
      | (with_reducible exact ih3 _ _ _ _ _ _ _ _ _ _)
      | (with_reducible exact LeO.refl _)
      | (with_reducible exact LeO.none _)
      | (with_reducible refine LeO.ite ?_ ?_)
      | (with_reducible refine LeO.bind ?_ (fun _ => ?_))
      | exact ih0 _ _ _
      | exact ih1 _ _ _ _ _ _ _
      | exact ih2 _ _ _ _ _ _ _ _ _ _ _
      | exact ih3 _ _ _ _ _ _ _ _ _ _
      | exact LeO.none _
      | refine LeO.ite ?_ ?_
      | refine LeO.bind ?_ (fun _ => ?_)
set_option maxHeartbeats 8000000 in
set_option maxRecDepth 100000 in
theorem impl_LevelMates.calls (k : Nat) (A0 : Option Addr) (c0 : Nat) (l0 : List Int) (A1 : Option Addr) (c1 : Nat) (l1 : List Int) (r : List (List Int)) (w : World) (hr0 : Kd.C (Kd.int .i64) w A0 l0.length l0) (hc0 : l0.length ≤ c0) (hr1 : Kd.C (Kd.int .i64) w A1 l1.length l1) (hc1 : l1.length ≤ c1) (h : impl_LevelMates.f k l0 l1 = some r) :
    Calls Try.prog 40 #[.slice A0 l0.length c0, .slice A1 l1.length c1] w fun e w' => ∃ v0_ : Value, e = .returned (v0_) ∧ Kd.S (Kd.slice 3 (Kd.int .i64)) 22 w' w.heap.size (fun _ => True) v0_ r ∧ Below w.heap.size w w' := by
  have HR0 := Aside0.mk hr0
  have HC0 := Aside0.mk hc0
  clear hr0 hc0
  have HR1 := Aside0.mk hr1
  have HC1 := Aside0.mk hc1
  clear hr1 hc1
  have HB := Aside0.mk (Below.refl w.heap.size w)
  have H : ((impl_lettersOk.f l0).bind fun t210 => (if t210 = true then (if (l1.length : Int) = (l0.length : Int) then ((impl_classesOk.f l1).bind fun t211 => (impl_LevelMates.j0 k l0 l1 (!t211))) else (impl_LevelMates.j0 k l0 l1 true)) else (impl_LevelMates.j0 k l0 l1 true))) = some r := h
  clear h
  have HC3 := Aside0.mk H
  clear H
  go_enter Try.func40, Try.ntmps40
  go_upto_region 1 with (fail)
  go_cut [25] (fun v25 wc => ∃ (kq : Nat) (x25_2 : Bool), v25 = .bool x25_2 ∧ Aside0 (impl_LevelMates.j0 kq l0 l1 x25_2 = some r) ∧ Aside0 (kq ≤ k) ∧ Aside0 (Below w.heap.size w wc))
  case first =>
    have H := HC3.out
    clear HC3
    replace H := Option.bind_eq_some_iff.mp H
    obtain ⟨t210, A40, H⟩ := H
    replace H : (if t210 = true then (if (l1.length : Int) = (l0.length : Int) then ((impl_classesOk.f l1).bind fun t211 => (impl_LevelMates.j0 k l0 l1 (!t211))) else (impl_LevelMates.j0 k l0 l1 true)) else (impl_LevelMates.j0 k l0 l1 true)) = some r := H
    have A4 := Aside0.mk A40
    clear A40
    by_cases c5 : t210 = true
    · subst c5
      have H1 : (if (l1.length : Int) = (l0.length : Int) then ((impl_classesOk.f l1).bind fun t211 => (impl_LevelMates.j0 k l0 l1 (!t211))) else (impl_LevelMates.j0 k l0 l1 true)) = some r := by rw [if_pos rfl] at H; exact H
      clear H
      have H := H1
      clear H1
      by_cases c6 : (l1.length : Int) = (l0.length : Int)
      · rw [if_pos c6] at H
        have c6b0 : ((l1.length : Int) == (l0.length : Int)) = true := beq_iff_eq.mpr c6
        have c6b1 : ((l1.length : Int) != (l0.length : Int)) = false := bne_eq_false_iff_eq.mpr c6
        have c6b2 : (l1.length == l0.length) = true := by first | simpa using c6 | (simp at c6 ⊢; omega)
        clear c6
        (first | rw [c6b0] | (simp only [i64_w, i32_w]; rw [c6b0]) | skip)
        replace H := Option.bind_eq_some_iff.mp H
        obtain ⟨t211, A70, H⟩ := H
        replace H : (impl_LevelMates.j0 k l0 l1 (!t211)) = some r := H
        have A7 := Aside0.mk A70
        clear A70
        have H' := Aside0.mk H
        clear H
        go_wp2_with (first | ((with_reducible refine gate_callee (f := 53) rfl ?_); refine goesL_ (some 12) rfl rfl Try.func53 (by kernel_rfl) rfl #[.slice A0 l0.length c0] rfl (by (try simp only [List.map_toArray, List.map_cons, List.map_nil]); first | done | rfl | (simp only [List.length_drop, List.length_take]; rfl)) ?_; (with_reducible refine (impl_lettersOk.calls _ _ l0 true _ ?side1 ?side2 A4.out).mono ?_); (case side1 => repeat (first | exact (Kd.C_below HR0.out HB.out) | (with_reducible refine Kd.C_alloc ?_ _) | (with_reducible refine Kd.C_drewN ?_ _) | (with_reducible refine Kd.C_drew ?_))); (case side2 => exact HC0.out); rintro e w' ⟨rfl, ⟨nd, rfl⟩⟩; refine ⟨_, rfl, ?_⟩) | (go_at_call 83; (with_reducible refine (impl_classesOk.calls _ _ l1 t211 _ ?side1 ?side2 A7.out).mono ?_); (case side1 => repeat (first | exact (Kd.C_below HR1.out (by repeat (first | (with_reducible first | exact HB.out | apply below_alloc | apply pw_below_drewN | apply below_drew1) | exact HB.out))) | (with_reducible refine Kd.C_alloc ?_ _) | (with_reducible refine Kd.C_drewN ?_ _) | (with_reducible refine Kd.C_drew ?_))); (case side2 => exact HC1.out); rintro e w' ⟨rfl, ⟨nd, rfl⟩⟩))
        go_meet
        case rel => exact ⟨_, (!t211), (by first | rfl | (simp; done) | (simp [*]; done)), H', ⟨by first | omega | exact Nat.le_refl _⟩, ⟨by repeat (first | (with_reducible first | exact HB.out | apply below_alloc | apply pw_below_drewN | apply below_drew1) | exact HB.out)⟩⟩
      · rw [if_neg c6] at H
        have c6b0 : ((l1.length : Int) == (l0.length : Int)) = false := beq_eq_false_iff_ne.mpr c6
        have c6b1 : ((l1.length : Int) != (l0.length : Int)) = true := bne_iff_ne.mpr c6
        have c6b2 : (l1.length == l0.length) = false := by first | simpa using c6 | (simp at c6 ⊢; omega)
        (first | rw [c6b0] | (simp only [i64_w, i32_w]; rw [c6b0]) | skip)
        have H' := Aside0.mk H
        clear H
        go_wp2_with (first | ((with_reducible refine gate_callee (f := 53) rfl ?_); refine goesL_ (some 12) rfl rfl Try.func53 (by kernel_rfl) rfl #[.slice A0 l0.length c0] rfl (by (try simp only [List.map_toArray, List.map_cons, List.map_nil]); first | done | rfl | (simp only [List.length_drop, List.length_take]; rfl)) ?_; (with_reducible refine (impl_lettersOk.calls _ _ l0 true _ ?side1 ?side2 A4.out).mono ?_); (case side1 => repeat (first | exact (Kd.C_below HR0.out HB.out) | (with_reducible refine Kd.C_alloc ?_ _) | (with_reducible refine Kd.C_drewN ?_ _) | (with_reducible refine Kd.C_drew ?_))); (case side2 => exact HC0.out); rintro e w' ⟨rfl, ⟨nd, rfl⟩⟩; refine ⟨_, rfl, ?_⟩))
        go_meet
        case rel => exact ⟨_, (true), (by first | rfl | (simp; done) | (simp [*]; done)), H', ⟨by first | omega | exact Nat.le_refl _⟩, ⟨by repeat (first | (with_reducible first | exact HB.out | apply below_alloc | apply pw_below_drewN | apply below_drew1) | exact HB.out)⟩⟩
    · replace c5 := Bool.eq_false_iff.mpr c5
      subst c5
      have H1 : (impl_LevelMates.j0 k l0 l1 true) = some r := by rw [if_neg (show ¬ (false = true) by decide)] at H; exact H
      clear H
      have H := H1
      clear H1
      have H' := Aside0.mk H
      clear H
      go_wp2_with (first | ((with_reducible refine gate_callee (f := 53) rfl ?_); refine goesL_ (some 12) rfl rfl Try.func53 (by kernel_rfl) rfl #[.slice A0 l0.length c0] rfl (by (try simp only [List.map_toArray, List.map_cons, List.map_nil]); first | done | rfl | (simp only [List.length_drop, List.length_take]; rfl)) ?_; (with_reducible refine (impl_lettersOk.calls _ _ l0 false _ ?side1 ?side2 A4.out).mono ?_); (case side1 => repeat (first | exact (Kd.C_below HR0.out HB.out) | (with_reducible refine Kd.C_alloc ?_ _) | (with_reducible refine Kd.C_drewN ?_ _) | (with_reducible refine Kd.C_drew ?_))); (case side2 => exact HC0.out); rintro e w' ⟨rfl, ⟨nd, rfl⟩⟩; refine ⟨_, rfl, ?_⟩))
      go_meet
      case rel => exact ⟨_, (true), (by first | rfl | (simp; done) | (simp [*]; done)), H', ⟨by first | omega | exact Nat.le_refl _⟩, ⟨by repeat (first | (with_reducible first | exact HB.out | apply below_alloc | apply pw_below_drewN | apply below_drew1) | exact HB.out)⟩⟩
  case rest =>
    clear HC3
    try clear c1
    try clear p2
    try clear c4
    try clear c5
    try clear c6
    try clear c6b0
    try clear c6b1
    try clear c6b2
    obtain ⟨kq, x25_2, rfl, HA, HJ2, HB⟩ := hcut
    cases kq with
    | zero => exact absurd HA.out (by simp [impl_LevelMates.j0])
    | succ kj2 =>
      have H := HA.out
      clear HA
      simp only [impl_LevelMates.j0] at H
      by_cases c8 : x25_2 = true
      · subst c8
        have H1 : (some ([] : List (List Int))) = some r := by rw [if_pos rfl] at H; exact H
        clear H
        have H := H1
        clear H1
        obtain rfl := Option.some.inj H
        go_wp2
        go_ret
        exact ⟨_, by first | rfl | (simp [errW_none, errW_some] <;> rfl) | (simp [*, errW_none, errW_some] <;> rfl), by first | exact Kd.S_nil _ _ _ _ _ | exact Kd.N_nil _ _ _ _ _ | exact Kd.V_nil _ _ _ _ _ | exact Kd.Q_nil _ _ _ _ _ | exact Kd.R_nil _ _ _ _ _, by repeat (first | (with_reducible first | exact HB.out | apply below_alloc | apply pw_below_drewN | apply below_drew1) | exact HB.out)⟩
      · replace c8 := Bool.eq_false_iff.mpr c8
        subst c8
        have H1 : (impl_LevelMates.l0 kj2 l0 l1 ([] : List Int) ([] : List (List Int)) l0 (l0.length : Int) 0) = some r := by rw [if_neg (show ¬ (false = true) by decide)] at H; exact H
        clear H
        have H := H1
        clear H1
        have H' := Aside0.mk H
        clear H
        go_wp2
        go_loopg [5, 6, 28] kj2 (fun kq v5 v6 v28 w' => ∃ (x5_2 : List Int) (x6_2 : List (List Int)) (x28_2 : Int), v28 = .int .i64 x28_2 ∧ Aside0 (impl_LevelMates.l0 kq l0 l1 x5_2 x6_2 l0 (l0.length : Int) x28_2 = some r) ∧ Aside0 (kq ≤ kj2) ∧ Aside0 (Kd.R (Kd.int .i64) 3 w' w.heap.size (fun _ => True) v5 x5_2) ∧ Aside0 (Kd.S (Kd.slice 3 (Kd.int .i64)) 22 w' w.heap.size (fun k_ => some k_ ≠ (v5 : Value).ownBlock) v6 x6_2) ∧ Aside0 (Below w.heap.size w w'))
        case atStart => exact ⟨(([] : List Int)), (([] : List (List Int))), (0), (by first | rfl | (simp; done) | (simp [*]; done)), H', ⟨Nat.le_refl _⟩, ⟨by first | exact Kd.R_nil _ _ _ _ _ | exact Kd.N_nil _ _ _ _ _ | exact Kd.V_nil _ _ _ _ _ | exact Kd.Q_nil _ _ _ _ _ | exact Kd.S_nil _ _ _ _ _⟩, ⟨by first | exact Kd.S_nil _ _ _ _ _ | exact Kd.N_nil _ _ _ _ _ | exact Kd.V_nil _ _ _ _ _ | exact Kd.Q_nil _ _ _ _ _ | exact Kd.R_nil _ _ _ _ _⟩, ⟨by repeat (first | (with_reducible first | exact HB.out | apply below_alloc | apply pw_below_drewN | apply below_drew1) | exact HB.out)⟩⟩
        case round =>
          clear H'
          try clear c1
          try clear p2
          try clear c4
          try clear c5
          try clear c6
          try clear c6b0
          try clear c6b1
          try clear c6b2
          try clear c8
          try clear p2
          obtain ⟨x5_2, x6_2, x28_2, rfl, HA, HK2, HO_5, HO_6, HB⟩ := hrel
          cases gk with
          | zero => exact absurd HA.out (by simp [impl_LevelMates.l0])
          | succ k2 =>
            have H := HA.out
            clear HA
            simp only [impl_LevelMates.l0] at H
            by_cases c9 : x28_2 < (l0.length : Int)
            · rw [if_pos c9] at H
              have c9b0 : decide (x28_2 < (l0.length : Int)) = true := decide_eq_true c9
              clear c9
              by_cases c10 : 0 ≤ x28_2
              · rw [if_pos c10] at H
                have c10b0 : decide (0 ≤ x28_2) = true := decide_eq_true c10
                clear c10
                by_cases c11 : x28_2 < (l0.length : Int)
                · rw [if_pos c11] at H
                  have c11b0 : decide (x28_2 < (l0.length : Int)) = true := decide_eq_true c11
                  clear c11
                  replace H := Option.bind_eq_some_iff.mp H
                  obtain ⟨t213, A120, H⟩ := H
                  replace H : (if t213 = 0 then (impl_LevelMates.j2 k2 l0 l1 x5_2 x6_2 x28_2 (rd l0 x28_2) t213 l0 (l0.length : Int) x28_2 true) else (if x28_2 < (l1.length : Int) then (impl_LevelMates.j2 k2 l0 l1 x5_2 x6_2 x28_2 (rd l0 x28_2) t213 l0 (l0.length : Int) x28_2 ((rd l1 x28_2) != 13)) else (none))) = some r := H
                  have A12 := Aside0.mk A120
                  clear A120
                  have HC13 := Aside0.mk H
                  clear H
                  have p212 : 0 ≤ (x28_2 : Int) := of_decide_eq_true (by first | (with_reducible assumption) | assumption)
                  have q212 : x28_2 < (l0.length : Int) := of_decide_eq_true (by first | (with_reducible assumption) | assumption)
                  obtain ⟨ad212, e212, hx212_0⟩ := Kd.at_int HR0.out x28_2 p212 q212
                  cases e212
                  replace hx212_0 := (HB.out.cell (World.block_lt_of_cell? w _ hx212_0)).trans hx212_0
                  replace p212 := eq_true p212
                  replace q212 := eq_true q212
                  go_upto_region 9 with (first | ((with_reducible refine gate_callee (f := 46) rfl ?_); refine goesL_ (some 34) rfl rfl Try.func46 (by kernel_rfl) rfl #[.int .i64 (rd l0 x28_2)] rfl (by (try simp only [List.map_toArray, List.map_cons, List.map_nil]); first | done | rfl | (simp only [List.length_drop, List.length_take]; rfl)) ?_; (with_reducible refine (impl_RuneMate.calls (rd l0 x28_2) t213 _ A12.out).mono ?_); rintro e w14 ⟨rfl, hb⟩; refine ⟨_, rfl, ?_⟩; have n0_ := Aside0.mk (Kd.R_below (by (with_reducible repeat (first | apply Kd.R_alloc | apply Kd.R_drewN | apply Kd.R_drew)); exact HO_5.out) hb); have n1_ := Aside0.mk (Kd.S_below (by (with_reducible repeat (first | apply Kd.S_alloc | apply Kd.S_drewN | apply Kd.S_drew)); exact HO_6.out) hb); have n2_ := Aside0.mk (below_step (by repeat (first | (with_reducible first | exact HB.out | apply below_alloc | apply pw_below_drewN | apply below_drew1) | exact HB.out)) hb); clear HO_5; clear HO_6; clear HB; have HO_5 := n0_; have HO_6 := n1_; have HB := n2_; clear n0_ n1_ n2_; (try clear hb); (try clear hb2); (try clear hk); (try clear hi)))
                  (try simp only [Act.put, List.setIfInBounds_toArray, List.set_cons_zero, List.set_cons_succ])
                  go_cut [43] (fun v43 wc => ∃ (kq : Nat) (x43_12 : Bool), v43 = .bool x43_12 ∧ Aside0 (impl_LevelMates.j2 kq l0 l1 x5_2 x6_2 x28_2 (rd l0 x28_2) t213 l0 (l0.length : Int) x28_2 x43_12 = some r) ∧ Aside0 (kq ≤ k2) ∧ Aside0 (Kd.R (Kd.int .i64) 3 wc w.heap.size (fun _ => True) u5 x5_2) ∧ Aside0 (Kd.S (Kd.slice 3 (Kd.int .i64)) 22 wc w.heap.size (fun k_ => some k_ ≠ (u5 : Value).ownBlock) u6 x6_2) ∧ Aside0 (Below w.heap.size w wc))
                  case first =>
                    have H := HC13.out
                    clear HC13
                    by_cases c15 : t213 = 0
                    · rw [if_pos c15] at H
                      have c15b0 : (t213 == 0) = true := beq_iff_eq.mpr c15
                      have c15b1 : (t213 != 0) = false := bne_eq_false_iff_eq.mpr c15
                      clear c15
                      (first | rw [c15b0] | (simp only [i64_w, i32_w]; rw [c15b0]) | skip)
                      have H' := Aside0.mk H
                      clear H
                      go_wp2
                      go_meet
                      case rel => exact ⟨_, (true), (by first | rfl | (simp; done) | (simp [*]; done)), H', ⟨by have := HJ2.out; have := HK2.out; first | omega | exact Nat.le_refl _⟩, ⟨by (with_reducible repeat (first | apply Kd.R_alloc | apply Kd.R_drewN | apply Kd.R_drew)); exact HO_5.out⟩, ⟨by (with_reducible repeat (first | apply Kd.S_alloc | apply Kd.S_drewN | apply Kd.S_drew)); exact HO_6.out⟩, ⟨by repeat (first | (with_reducible first | exact HB.out | apply below_alloc | apply pw_below_drewN | apply below_drew1) | exact HB.out)⟩⟩
                    · rw [if_neg c15] at H
                      have c15b0 : (t213 == 0) = false := beq_eq_false_iff_ne.mpr c15
                      have c15b1 : (t213 != 0) = true := bne_iff_ne.mpr c15
                      (first | rw [c15b0] | (simp only [i64_w, i32_w]; rw [c15b0]) | skip)
                      by_cases c16 : x28_2 < (l1.length : Int)
                      · rw [if_pos c16] at H
                        have c16b0 : decide (x28_2 < (l1.length : Int)) = true := decide_eq_true c16
                        clear c16
                        have H' := Aside0.mk H
                        clear H
                        have p214 : 0 ≤ (x28_2 : Int) := of_decide_eq_true (by first | (with_reducible assumption) | assumption)
                        have q214 : x28_2 < (l1.length : Int) := of_decide_eq_true (by first | (with_reducible assumption) | assumption)
                        obtain ⟨ad214, e214, hx214_0⟩ := Kd.at_int HR1.out x28_2 p214 q214
                        cases e214
                        replace hx214_0 := (HB.out.cell (World.block_lt_of_cell? w _ hx214_0)).trans hx214_0
                        replace p214 := eq_true p214
                        replace q214 := eq_true q214
                        go_wp2
                        go_meet
                        case rel => exact ⟨_, (((rd l1 x28_2) != 13)), (by first | rfl | (simp; done) | (simp [*]; done)), H', ⟨by have := HJ2.out; have := HK2.out; first | omega | exact Nat.le_refl _⟩, ⟨by (with_reducible repeat (first | apply Kd.R_alloc | apply Kd.R_drewN | apply Kd.R_drew)); exact HO_5.out⟩, ⟨by (with_reducible repeat (first | apply Kd.S_alloc | apply Kd.S_drewN | apply Kd.S_drew)); exact HO_6.out⟩, ⟨by repeat (first | (with_reducible first | exact HB.out | apply below_alloc | apply pw_below_drewN | apply below_drew1) | exact HB.out)⟩⟩
                      · rw [if_neg c16] at H
                        exact absurd H (by simp)
                  case rest =>
                    clear HC13
                    try clear c1
                    try clear p2
                    try clear q2
                    try clear hx2
                    try clear c4
                    try clear c5
                    try clear c6
                    try clear c6b0
                    try clear c6b1
                    try clear c6b2
                    try clear c8
                    try clear c9
                    try clear c9b0
                    try clear c10
                    try clear c10b0
                    try clear c11
                    try clear c11b0
                    try clear c15
                    try clear c15b0
                    try clear c15b1
                    try clear c16
                    try clear c16b0
                    try clear hx212_0
                    try clear hx214_0
                    try clear p2
                    try clear p212
                    try clear p214
                    try clear q212
                    try clear q214
                    obtain ⟨kq, x43_12, rfl, HA, HJ12, HO_5, HO_6, HB⟩ := hcut
                    cases kq with
                    | zero => exact absurd HA.out (by simp [impl_LevelMates.j2])
                    | succ kj12 =>
                      have H := HA.out
                      clear HA
                      simp only [impl_LevelMates.j2] at H
                      by_cases c17 : x43_12 = true
                      · subst c17
                        have H1 : (impl_LevelMates.l0 kj12 l0 l1 x5_2 x6_2 l0 (l0.length : Int) (wrap64 (x28_2 + 1))) = some r := by rw [if_pos rfl] at H; exact H
                        clear H
                        have H := H1
                        clear H1
                        have H' := Aside0.mk H
                        clear H
                        go_wp2
                        go_roundg kj12
                        case measure => have := HJ2.out; have := HK2.out; have := HJ12.out; omega
                        case rel => exact ⟨(x5_2), (x6_2), (wrap64 (x28_2 + 1)), (by first | rfl | (simp; done) | (simp [*]; done)), H', ⟨by have := HJ2.out; have := HK2.out; have := HJ12.out; omega⟩, ⟨by (with_reducible repeat (first | apply Kd.R_alloc | apply Kd.R_drewN | apply Kd.R_drew)); exact HO_5.out⟩, ⟨by (with_reducible repeat (first | apply Kd.S_alloc | apply Kd.S_drewN | apply Kd.S_drew)); exact HO_6.out⟩, ⟨by repeat (first | (with_reducible first | exact HB.out | apply below_alloc | apply pw_below_drewN | apply below_drew1) | exact HB.out)⟩⟩
                      · replace c17 := Bool.eq_false_iff.mpr c17
                        subst c17
                        have H1 : (if (rd l0 x28_2) < t213 then (if x5_2.length < 17592186044416 then (impl_LevelMates.l0 kj12 l0 l1 (x5_2 ++ [x28_2]) x6_2 l0 (l0.length : Int) (wrap64 (x28_2 + 1))) else (none)) else (impl_LevelMates.l1 kj12 l0 l1 x5_2 x6_2 x28_2 t213 (wrap64 ((x5_2.length : Int) - 1)) l0 (l0.length : Int) x28_2)) = some r := by rw [if_neg (show ¬ (false = true) by decide)] at H; exact H
                        clear H
                        have H := H1
                        clear H1
                        by_cases c18 : (rd l0 x28_2) < t213
                        · rw [if_pos c18] at H
                          have c18b0 : decide ((rd l0 x28_2) < t213) = true := decide_eq_true c18
                          clear c18
                          by_cases c19 : x5_2.length < 17592186044416
                          · rw [if_pos c19] at H
                            have LMc19 := Aside0.mk c19
                            clear c19
                            obtain ⟨y215, hy215⟩ : ∃ y_ : List Int, y_ = (x5_2 ++ [x28_2]) := ⟨_, rfl⟩
                            replace H : (impl_LevelMates.l0 kj12 l0 l1 y215 x6_2 l0 (l0.length : Int) (wrap64 (x28_2 + 1))) = some r := by first | (rw [hy215]; with_reducible exact H) | (have H2_ := (Option.bind_some _ _).symm.trans H; rw [hy215]; with_reducible exact H2_) | (have H2_ := (Option.bind_some _ _).symm.trans H; with_reducible exact H2_) | with_reducible exact H | (rw [hy215]; exact H) | exact H
                            have Ny215 := Aside0.mk hy215
                            clear hy215
                            have H' := Aside0.mk H
                            clear H
                            go_wp2_with (first | ((with_reducible refine gate_builtin (b := .append) (xs := #[.tmp 47, .tmp 49]) rfl ?_); (try (refine gate_guard (by rfl) ?_; dsimp only)); at_builtin; refine Kd.R_append (Kd.int .i64) (w0 := w) w.heap.size rfl (.tmp 47) (.tmp 49) 22 3 (.int .i64 0) 8 rfl Try.underlying22 info3 rfl (by decide) (by omega) u5 x5_2 x28_2 [.int .i64 x28_2] (fun _ => True) (fun _ => False) rfl rfl ?aP (fun _ hk => hk.elim) ?aF ?aO ?aB ?aS ?aL ?_; (case aP => exact rfl); (case aB => exact (by repeat (first | (with_reducible first | exact HB.out | apply below_alloc | apply pw_below_drewN | apply below_drew1) | exact HB.out))); (case aF => exact (fun _ _ => trivial)); (case aO => exact (by (with_reducible repeat (first | apply Kd.R_alloc | apply Kd.R_drewN | apply Kd.R_drew)); exact HO_5.out)); (case aS => exact (below_size (by repeat (first | (with_reducible first | exact HB.out | apply below_alloc | apply pw_below_drewN | apply below_drew1) | exact HB.out)))); (case aL => have := LMc19.out; omega); intro v216 w20 ho hb hg hat; rw [← Ny215.out] at ho; have n0_ := Aside0.mk (Kd.S_after (ok := (fun _ => True)) (by (with_reducible repeat (first | apply Kd.S_alloc | apply Kd.S_drewN | apply Kd.S_drew)); exact Kd.S_mono HO_6.out (fun _ hk => ⟨trivial, hk⟩)) hg hat); have n1_ := Aside0.mk (hb); have n2_ := Aside0.mk (ho); clear HO_6; clear HB; clear HO_5; have HO_6 := n0_; have HB := n1_; have HO217 := n2_; clear n0_ n1_ n2_; clear ho hb hg hat))
                            go_roundg kj12
                            case measure => have := HJ2.out; have := HK2.out; have := HJ12.out; omega
                            case rel => exact ⟨(y215), (x6_2), (wrap64 (x28_2 + 1)), (by first | rfl | (simp; done) | (simp [*]; done)), H', ⟨by have := HJ2.out; have := HK2.out; have := HJ12.out; omega⟩, ⟨by (with_reducible repeat (first | apply Kd.R_alloc | apply Kd.R_drewN | apply Kd.R_drew)); exact HO217.out⟩, ⟨by (with_reducible repeat (first | apply Kd.S_alloc | apply Kd.S_drewN | apply Kd.S_drew)); exact Kd.S_mono HO_6.out (fun _ hk => hk.2)⟩, ⟨by repeat (first | (with_reducible first | exact HB.out | apply below_alloc | apply pw_below_drewN | apply below_drew1) | exact HB.out)⟩⟩
                          · rw [if_neg c19] at H
                            exact absurd H (by simp)
                        · rw [if_neg c18] at H
                          have c18b0 : decide ((rd l0 x28_2) < t213) = false := decide_eq_false c18
                          clear c18
                          have H' := Aside0.mk H
                          clear H
                          obtain ⟨Ao21, co21, eo21⟩ := Kd.R_slice HO_5.out
                          subst eo21
                          go_wp2
                          go_loopg [5, 6, 10] kj12 (fun kq v5 v6 v10 w' => ∃ (x5_4 : List Int) (x6_4 : List (List Int)) (x10_4 : Int), v10 = .int .i64 x10_4 ∧ Aside0 (impl_LevelMates.l1 kq l0 l1 x5_4 x6_4 x28_2 t213 x10_4 l0 (l0.length : Int) x28_2 = some r) ∧ Aside0 (kq ≤ kj12) ∧ Aside0 (Kd.R (Kd.int .i64) 3 w' w.heap.size (fun _ => True) v5 x5_4) ∧ Aside0 (Kd.S (Kd.slice 3 (Kd.int .i64)) 22 w' w.heap.size (fun k_ => some k_ ≠ (v5 : Value).ownBlock) v6 x6_4) ∧ Aside0 (Below w.heap.size w w'))
                          case atStart => exact ⟨(x5_2), (x6_2), (wrap64 ((x5_2.length : Int) - 1)), (by first | rfl | (simp; done) | (simp [*]; done)), H', ⟨Nat.le_refl _⟩, ⟨by (with_reducible repeat (first | apply Kd.R_alloc | apply Kd.R_drewN | apply Kd.R_drew)); exact HO_5.out⟩, ⟨by (with_reducible repeat (first | apply Kd.S_alloc | apply Kd.S_drewN | apply Kd.S_drew)); exact HO_6.out⟩, ⟨by repeat (first | (with_reducible first | exact HB.out | apply below_alloc | apply pw_below_drewN | apply below_drew1) | exact HB.out)⟩⟩
                          case round =>
                            clear H'
                            try clear c1
                            try clear p2
                            try clear q2
                            try clear hx2
                            try clear c4
                            try clear c5
                            try clear c6
                            try clear c6b0
                            try clear c6b1
                            try clear c6b2
                            try clear p6
                            try clear c8
                            try clear c9
                            try clear c9b0
                            try clear c10
                            try clear c10b0
                            try clear c11
                            try clear c11b0
                            try clear c15
                            try clear c15b0
                            try clear c15b1
                            try clear c16
                            try clear c16b0
                            try clear c17
                            try clear c18
                            try clear c18b0
                            try clear c19
                            try clear p21
                            try clear q21
                            try clear hx21
                            try clear hx212_0
                            try clear hx214_0
                            try clear p2
                            try clear p212
                            try clear p214
                            try clear q2
                            try clear q212
                            try clear q214
                            obtain ⟨x5_4, x6_4, x10_4, rfl, HA, HK4, HO_5, HO_6, HB⟩ := hrel
                            cases gk with
                            | zero => exact absurd HA.out (by simp [impl_LevelMates.l1])
                            | succ k4 =>
                              have H := HA.out
                              clear HA
                              simp only [impl_LevelMates.l1] at H
                              by_cases c22 : x10_4 ≥ 0
                              · rw [if_pos c22] at H
                                have c22b0 : decide (0 ≤ x10_4) = true := decide_eq_true c22
                                clear c22
                                by_cases c23 : 0 ≤ x10_4
                                · rw [if_pos c23] at H
                                  have c23b0 : decide (0 ≤ x10_4) = true := decide_eq_true c23
                                  clear c23
                                  by_cases c24 : x10_4 < (x5_4.length : Int)
                                  · rw [if_pos c24] at H
                                    have c24b0 : decide (x10_4 < (x5_4.length : Int)) = true := decide_eq_true c24
                                    clear c24
                                    by_cases c25 : 0 ≤ (rd x5_4 x10_4)
                                    · rw [if_pos c25] at H
                                      have c25b0 : decide (0 ≤ (rd x5_4 x10_4)) = true := decide_eq_true c25
                                      clear c25
                                      by_cases c26 : (rd x5_4 x10_4) < (l0.length : Int)
                                      · rw [if_pos c26] at H
                                        have c26b0 : decide ((rd x5_4 x10_4) < (l0.length : Int)) = true := decide_eq_true c26
                                        clear c26
                                        by_cases c27 : (rd l0 (rd x5_4 x10_4)) = t213
                                        · rw [if_pos c27] at H
                                          have c27b0 : ((rd l0 (rd x5_4 x10_4)) == t213) = true := beq_iff_eq.mpr c27
                                          have c27b1 : ((rd l0 (rd x5_4 x10_4)) != t213) = false := bne_eq_false_iff_eq.mpr c27
                                          clear c27
                                          obtain ⟨y221, hy221⟩ : ∃ y_ : List Int, y_ = (([rd x5_4 x10_4, x28_2] : List Int)) := ⟨_, rfl⟩
                                          replace H : (if x6_4.length < 5864062014805 then (if x10_4 ≤ (x5_4.length : Int) then (impl_LevelMates.l0 k4 l0 l1 (x5_4.take (x10_4 : Int).toNat) (x6_4 ++ [y221]) l0 (l0.length : Int) (wrap64 (x28_2 + 1))) else (none)) else (none)) = some r := by first | (rw [hy221]; with_reducible exact H) | (have H2_ := (Option.bind_some _ _).symm.trans H; rw [hy221]; with_reducible exact H2_) | (have H2_ := (Option.bind_some _ _).symm.trans H; with_reducible exact H2_) | with_reducible exact H | (rw [hy221]; exact H) | exact H
                                          have Ny221 := Aside0.mk hy221
                                          clear hy221
                                          by_cases c28 : x6_4.length < 5864062014805
                                          · rw [if_pos c28] at H
                                            have LMc28 := Aside0.mk c28
                                            clear c28
                                            obtain ⟨y224, hy224⟩ : ∃ y_ : List (List Int), y_ = (x6_4 ++ [y221]) := ⟨_, rfl⟩
                                            replace H : (if x10_4 ≤ (x5_4.length : Int) then (impl_LevelMates.l0 k4 l0 l1 (x5_4.take (x10_4 : Int).toNat) y224 l0 (l0.length : Int) (wrap64 (x28_2 + 1))) else (none)) = some r := by first | (rw [hy224]; with_reducible exact H) | (have H2_ := (Option.bind_some _ _).symm.trans H; rw [hy224]; with_reducible exact H2_) | (have H2_ := (Option.bind_some _ _).symm.trans H; with_reducible exact H2_) | with_reducible exact H | (rw [hy224]; exact H) | exact H
                                            have Ny224 := Aside0.mk hy224
                                            clear hy224
                                            by_cases c29 : x10_4 ≤ (x5_4.length : Int)
                                            · rw [if_pos c29] at H
                                              have c29b0 := eq_true c29
                                              have c29b1 : decide (x10_4 ≤ (x5_4.length : Int)) = true := decide_eq_true c29
                                              clear c29
                                              obtain ⟨y227, hy227⟩ : ∃ y_ : List Int, y_ = (x5_4.take (x10_4 : Int).toNat) := ⟨_, rfl⟩
                                              replace H : (impl_LevelMates.l0 k4 l0 l1 y227 y224 l0 (l0.length : Int) (wrap64 (x28_2 + 1))) = some r := by first | (rw [hy227]; with_reducible exact H) | (have H2_ := (Option.bind_some _ _).symm.trans H; rw [hy227]; with_reducible exact H2_) | (have H2_ := (Option.bind_some _ _).symm.trans H; with_reducible exact H2_) | with_reducible exact H | (rw [hy227]; exact H) | exact H
                                              have Ny227 := Aside0.mk hy227
                                              clear hy227
                                              have H' := Aside0.mk H
                                              clear H
                                              obtain ⟨Ao30, co30, eo30⟩ := Kd.R_slice HO_5.out
                                              subst eo30
                                              have p218 : 0 ≤ (x10_4 : Int) := of_decide_eq_true (by first | (with_reducible assumption) | assumption)
                                              have q218 : x10_4 < (x5_4.length : Int) := of_decide_eq_true (by first | (with_reducible assumption) | assumption)
                                              obtain ⟨ad218, e218, hx218_0⟩ := Kd.at_int (Kd.R_reads' HO_5.out).2.2 x10_4 p218 q218
                                              cases e218
                                              replace p218 := eq_true p218
                                              replace q218 := eq_true q218
                                              have p219 : 0 ≤ ((rd x5_4 x10_4) : Int) := of_decide_eq_true (by first | (with_reducible assumption) | assumption)
                                              have q219 : (rd x5_4 x10_4) < (l0.length : Int) := of_decide_eq_true (by first | (with_reducible assumption) | assumption)
                                              obtain ⟨ad219, e219, hx219_0⟩ := Kd.at_int HR0.out (rd x5_4 x10_4) p219 q219
                                              obtain rfl : ad212 = ad219 := (by injection e219)
                                              replace hx219_0 := (HB.out.cell (World.block_lt_of_cell? w _ hx219_0)).trans hx219_0
                                              replace p219 := eq_true p219
                                              replace q219 := eq_true q219
                                              have p220 : 0 ≤ (x10_4 : Int) := of_decide_eq_true (by first | (with_reducible assumption) | assumption)
                                              have q220 : x10_4 < (x5_4.length : Int) := of_decide_eq_true (by first | (with_reducible assumption) | assumption)
                                              obtain ⟨ad220, e220, hx220_0⟩ := Kd.at_int (Kd.R_reads' HO_5.out).2.2 x10_4 p220 q220
                                              obtain rfl : ad218 = ad220 := (by injection e220)
                                              replace p220 := eq_true p220
                                              replace q220 := eq_true q220
                                              go_wp2_with (first | ((with_reducible refine gate_dst (N := 73) rfl ?_); (try (refine gate_guard (by rfl) ?_; dsimp only)); refine Kd.R_lit (Kd.int .i64) _ 3 ?hg (N := 73) ?hd (xs := ([rd x5_4 x10_4, x28_2] : List Int)) (inner := [.int .i64 (rd x5_4 x10_4), .int .i64 x28_2]) (ok := fun _ => True) (okp := fun _ => True) ?hr ?hp (fun _ hk => hk) trivial (Below.refl _ _) (Nat.le_refl _) (by simp) ?_; (case hd => rfl); (case hg => rfl); (case hr => first | (go_simp; done) | (go_simp; rfl)); (case hp => exact (Reps.one (show Kd.M (Kd.int .i64) _ _ _ (rd x5_4 x10_4) [.int .i64 (rd x5_4 x10_4)] from rfl) (Reps.one (show Kd.M (Kd.int .i64) _ _ _ x28_2 [.int .i64 x28_2] from rfl) (Reps.none _ _)))); intro v222 w31 ho32 hb hg_ hnew_; clear hg_ hnew_; (first | rw [← Ny221.out] at ho32 | (simp only [Int.reduceToNat] at ho32; rw [← Ny221.out] at ho32)); have n0_ := Aside0.mk (Kd.R_elder' (by (with_reducible repeat (first | apply Kd.R_alloc | apply Kd.R_drewN | apply Kd.R_drew)); exact HO_5.out) (Kd.R_base ho32) hb); have n1_ := Aside0.mk (Kd.S_elder' (by (with_reducible repeat (first | apply Kd.S_alloc | apply Kd.S_drewN | apply Kd.S_drew)); exact HO_6.out) (Kd.R_base ho32) hb); have n2_ := Aside0.mk (Kd.R_lower (Kd.R_new' ho32 (Kd.R_lt (by (with_reducible repeat (first | apply Kd.R_alloc | apply Kd.R_drewN | apply Kd.R_drew)); exact HO_5.out))) (below_size (by repeat (first | (with_reducible first | exact HB.out | apply below_alloc | apply pw_below_drewN | apply below_drew1) | exact HB.out)))); have n3_ := Aside0.mk (below_step (by repeat (first | (with_reducible first | exact HB.out | apply below_alloc | apply pw_below_drewN | apply below_drew1) | exact HB.out)) hb); clear HO_5; clear HO_6; clear HB; have HO_5 := n0_; have HO_6 := n1_; have HO223 := n2_; have HB := n3_; clear n0_ n1_ n2_ n3_; clear hb ho32; obtain ⟨Ao34, co34, eo34⟩ := Kd.R_slice HO223.out; subst eo34) | ((with_reducible refine gate_builtin (b := .append) (xs := #[.tmp 67, .tmp 74]) rfl ?_); (try (refine gate_guard (by rfl) ?_; dsimp only)); at_builtin; refine Kd.S_append (Kd.slice 3 (Kd.int .i64)) (w0 := w) w.heap.size rfl (.tmp 67) (.tmp 74) 48 22 (.slice none 0 0) 24 rfl Try.underlying48 info22 rfl (by decide) (by omega) u6 x6_4 y221 [.slice Ao34 y221.length co34] (fun k_ => some k_ ≠ (.slice (some ad218) x5_4.length co30 : Value).ownBlock) (fun k_ => some k_ = (.slice Ao34 y221.length co34 : Value).ownBlock) rfl rfl ?aP (fun k_ hk_ => ((Kd.R_mono (ok' := fun k_ => ((fun k_ => some k_ ≠ (.slice (some ad218) x5_4.length co30 : Value).ownBlock)) k_ ∧ some k_ ≠ (u6 : Value).ownBlock) (Kd.R_apart' (HO223.out) (Kd.S_typed HO_6.out) (by decide)) (fun k_ hk => ⟨hk.1.2, hk.2⟩))).1 k_ hk_.symm) ?aF ?aO ?aB ?aS ?aL ?_; (case aP => exact Kd.M_row (Kd.R_mono (Kd.R_tight rfl (Kd.R_mono (ok' := fun k_ => ((fun k_ => some k_ ≠ (.slice (some ad218) x5_4.length co30 : Value).ownBlock)) k_ ∧ some k_ ≠ (u6 : Value).ownBlock) (Kd.R_apart' (HO223.out) (Kd.S_typed HO_6.out) (by decide)) (fun k_ hk => ⟨hk.1.2, hk.2⟩))) (fun _ h_ => h_))); (case aB => exact (by repeat (first | (with_reducible first | exact HB.out | apply below_alloc | apply pw_below_drewN | apply below_drew1) | exact HB.out))); (case aF => exact (fun k_ hk => Kd.fresh' (Kd.R_lt (by (with_reducible repeat (first | apply Kd.R_alloc | apply Kd.R_drewN | apply Kd.R_drew)); exact HO_5.out)) k_ hk)); (case aO => exact (by (with_reducible repeat (first | apply Kd.S_alloc | apply Kd.S_drewN | apply Kd.S_drew)); exact Kd.S_mono HO_6.out (fun k_ hk => ⟨hk.1, fun e_ => hk.2 e_⟩))); (case aS => exact (below_size (by repeat (first | (with_reducible first | exact HB.out | apply below_alloc | apply pw_below_drewN | apply below_drew1) | exact HB.out)))); (case aL => have := LMc28.out; omega); intro v225 w33 ho hb hg hat; rw [← Ny224.out] at ho; have n0_ := Aside0.mk (Kd.R_over' (by (with_reducible repeat (first | apply Kd.R_alloc | apply Kd.R_drewN | apply Kd.R_drew)); exact HO_5.out) (Kd.S_typed (by (with_reducible repeat (first | apply Kd.S_alloc | apply Kd.S_drewN | apply Kd.S_drew)); exact HO_6.out)) (by decide) hg); have n1_ := Aside0.mk (hb); have n2_ := Aside0.mk (ho); clear HO_5; clear HB; clear HO_6; clear HO223; have HO_5 := n0_; have HB := n1_; have HO226 := n2_; clear n0_ n1_ n2_; clear ho hb hg hat; have q35 : (x10_4 : Int) ≤ ((x5_4.length : Int) : Int) := of_decide_eq_true (by first | (with_reducible assumption) | assumption); obtain ⟨i035, hi035, _, hsz35, _⟩ := info_parts info3; have hcut35 := cut_to (P := Try.prog) 22 3 .i64 Try.underlying22 hi035 (some ad218) x5_4.length co30 x10_4 (of_decide_eq_true (by first | (with_reducible assumption) | assumption)) q35 (Kd.R_reads' HO_5.out).2.1; have hr35 := Kd.R_take (m := (x10_4 : Int).toNat) HO_5.out (by omega); have hy35 : y227.length = (x10_4 : Int).toNat := (by rw [Ny227.out, List.length_take]; omega); rw [← Ny227.out] at hr35; rw [← hy35] at hr35 hcut35; clear hy35 hi035 hsz35 HO_5; have HO229 := Aside0.mk hr35; clear hr35; replace q35 := eq_true q35))
                                              go_roundg k4
                                              case measure => have := HJ2.out; have := HK2.out; have := HJ12.out; have := HK4.out; omega
                                              case rel => exact ⟨(y227), (y224), (wrap64 (x28_2 + 1)), (by first | rfl | (simp; done) | (simp [*]; done)), H', ⟨by have := HJ2.out; have := HK2.out; have := HJ12.out; have := HK4.out; omega⟩, ⟨by (with_reducible repeat (first | apply Kd.R_alloc | apply Kd.R_drewN | apply Kd.R_drew)); exact Kd.R_mono HO229.out (fun _ hk => trivial)⟩, ⟨by (with_reducible repeat (first | apply Kd.S_alloc | apply Kd.S_drewN | apply Kd.S_drew)); exact HO226.out⟩, ⟨by repeat (first | (with_reducible first | exact HB.out | apply below_alloc | apply pw_below_drewN | apply below_drew1) | exact HB.out)⟩⟩
                                            · rw [if_neg c29] at H
                                              exact absurd H (by simp)
                                          · rw [if_neg c28] at H
                                            exact absurd H (by simp)
                                        · rw [if_neg c27] at H
                                          have c27b0 : ((rd l0 (rd x5_4 x10_4)) == t213) = false := beq_eq_false_iff_ne.mpr c27
                                          have c27b1 : ((rd l0 (rd x5_4 x10_4)) != t213) = true := bne_iff_ne.mpr c27
                                          have H' := Aside0.mk H
                                          clear H
                                          obtain ⟨Ao36, co36, eo36⟩ := Kd.R_slice HO_5.out
                                          subst eo36
                                          have p218 : 0 ≤ (x10_4 : Int) := of_decide_eq_true (by first | (with_reducible assumption) | assumption)
                                          have q218 : x10_4 < (x5_4.length : Int) := of_decide_eq_true (by first | (with_reducible assumption) | assumption)
                                          obtain ⟨ad218, e218, hx218_0⟩ := Kd.at_int (Kd.R_reads' HO_5.out).2.2 x10_4 p218 q218
                                          cases e218
                                          replace p218 := eq_true p218
                                          replace q218 := eq_true q218
                                          have p219 : 0 ≤ ((rd x5_4 x10_4) : Int) := of_decide_eq_true (by first | (with_reducible assumption) | assumption)
                                          have q219 : (rd x5_4 x10_4) < (l0.length : Int) := of_decide_eq_true (by first | (with_reducible assumption) | assumption)
                                          obtain ⟨ad219, e219, hx219_0⟩ := Kd.at_int HR0.out (rd x5_4 x10_4) p219 q219
                                          obtain rfl : ad212 = ad219 := (by injection e219)
                                          replace hx219_0 := (HB.out.cell (World.block_lt_of_cell? w _ hx219_0)).trans hx219_0
                                          replace p219 := eq_true p219
                                          replace q219 := eq_true q219
                                          go_wp2
                                          go_roundg k4
                                          case measure => have := HJ2.out; have := HK2.out; have := HJ12.out; have := HK4.out; omega
                                          case rel => exact ⟨(x5_4), (x6_4), (wrap64 (x10_4 - 1)), (by first | rfl | (simp; done) | (simp [*]; done)), H', ⟨by have := HJ2.out; have := HK2.out; have := HJ12.out; have := HK4.out; omega⟩, ⟨by (with_reducible repeat (first | apply Kd.R_alloc | apply Kd.R_drewN | apply Kd.R_drew)); exact HO_5.out⟩, ⟨by (with_reducible repeat (first | apply Kd.S_alloc | apply Kd.S_drewN | apply Kd.S_drew)); exact HO_6.out⟩, ⟨by repeat (first | (with_reducible first | exact HB.out | apply below_alloc | apply pw_below_drewN | apply below_drew1) | exact HB.out)⟩⟩
                                      · rw [if_neg c26] at H
                                        exact absurd H (by simp)
                                    · rw [if_neg c25] at H
                                      exact absurd H (by simp)
                                  · rw [if_neg c24] at H
                                    exact absurd H (by simp)
                                · rw [if_neg c23] at H
                                  exact absurd H (by simp)
                              · rw [if_neg c22] at H
                                have c22b0 : decide (0 ≤ x10_4) = false := decide_eq_false c22
                                clear c22
                                have H' := Aside0.mk H
                                clear H
                                go_wp2
                                go_roundg k4
                                case measure => have := HJ2.out; have := HK2.out; have := HJ12.out; have := HK4.out; omega
                                case rel => exact ⟨(x5_4), (x6_4), (wrap64 (x28_2 + 1)), (by first | rfl | (simp; done) | (simp [*]; done)), H', ⟨by have := HJ2.out; have := HK2.out; have := HJ12.out; have := HK4.out; omega⟩, ⟨by (with_reducible repeat (first | apply Kd.R_alloc | apply Kd.R_drewN | apply Kd.R_drew)); exact HO_5.out⟩, ⟨by (with_reducible repeat (first | apply Kd.S_alloc | apply Kd.S_drewN | apply Kd.S_drew)); exact HO_6.out⟩, ⟨by repeat (first | (with_reducible first | exact HB.out | apply below_alloc | apply pw_below_drewN | apply below_drew1) | exact HB.out)⟩⟩
                · rw [if_neg c11] at H
                  exact absurd H (by simp)
              · rw [if_neg c10] at H
                exact absurd H (by simp)
            · rw [if_neg c9] at H
              have c9b0 : decide (x28_2 < (l0.length : Int)) = false := decide_eq_false c9
              clear c9
              go_wp2_with (go_at_call 84; refine (sort_calls _ w.heap.size _ _ x6_2 r HO_6.out H).mono ?_; rintro e w9 ⟨rfl, hs9, hb9⟩; have HS9 := Aside0.mk hs9; have HB9 := Aside0.mk (HB.out.trans hb9); clear hs9 hb9)
              go_ret
              exact ⟨_, rfl, Kd.S_mono HS9.out (fun _ _ => trivial), HB9.out⟩


end Go.Proofs.Ytmjhdgofepdgkaa.PFnExactLevelMates
