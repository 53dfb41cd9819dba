-- Written by a program of this session (wip/tools) out of the translation; its shape is that of the kit print.
import Derived.Test.YtmjhdgofepdgkaaPFnExactFillCostx0
import Derived.Test.YtmjhdgofepdgkaaPFnExactFillCostx14
import Derived.Test.YtmjhdgofepdgkaaPFnExactFillCostx16
import Derived.Test.YtmjhdgofepdgkaaPFnExactFillCostx17
namespace Go.Proofs.Ytmjhdgofepdgkaa.PFnExactFillCost
open Go.RowKit Go.Proofs.YtmjhdgofepdgkaaW.PrintWords Go.Proofs.YtmjhdgofepdgkaaW.PrintLast Go.Proofs.YtmjhdgofepdgkaaW.PrintMore
attribute [local go_sem] zbb zcb zjb zkb zxa zya zdb zeb
set_option linter.unusedVariables false
set_option maxHeartbeats 8000000
set_option maxRecDepth 100000
set_option linter.unusedSimpArgs false
structure zva (w : World) where
 out : World
 below : Below w.heap.size w out
instance (w : World) : Inhabited (zva w) := ⟨⟨w, Below.refl _ _⟩⟩
theorem zrb {P : Program} {id : Nat} {Q : Exit → Act → World → Prop} {a : Act} {w : World} {l : List Oper} (hm : P.follows .mixedOrders = true) (hB : Region.lexB .any l.toArray = true)
  (h : wpQuiet P l.toArray (fun w' => ∃ p : zva w, w' = p.out) (fun a' => ∀ w', (∃ p : zva w, w' = p.out) → Q .normal a' w') l a) : (Code.region id l.toArray true).wp P Q a w :=
 wp_region_quiet (C := fun w' => ∃ p : zva w, w' = p.out) hm hB ⟨⟨w.drew, below_drew (Below.refl _ _)⟩, rfl⟩ (by simpa using h)
theorem ztb {P : Program} {f : FuncId} {args : Array Value} {w : World} {p : zva w} {v : Value}
  (h : Calls P f args p.out fun e w' => e = .returned v ∧ Below p.out.heap.size p.out w') : Calls P f args p.out fun e w'' => e = .returned v ∧ ∃ p' : zva w, w'' = p'.out :=
 h.mono fun _ w'' ⟨he, hb⟩ => ⟨he, ⟨⟨w'', zg p.below hb⟩, rfl⟩⟩
theorem zja {w : World} {a : Addr} {v : Value} (h : w.cell? a = some v) (p : zva w) : p.out.cell? a = some v := ze p.below h
def oneB (n : Int) (l : List Int) : Bool := decide (n ∈ l)
theorem oneOf_l0 (n : Int) : ∀ (suf pre : List Int) (k : Nat), (pre ++ suf).length ≤ 1000 → suf.length + 1 ≤ k → impl_oneOf.l0 k n (pre ++ suf) ((pre ++ suf).length : Int) (pre.length : Int) = some (oneB n suf)
 | [], pre, k, hl, hk => by
  obtain ⟨k, rfl⟩ : ∃ m, k = m + 1 := ⟨k - 1, by omega⟩
  simp only [impl_oneOf.l0]
  rw [if_neg (by simp)]
  simp [oneB]
 | x :: suf, pre, k, hl, hk => by
  obtain ⟨k, rfl⟩ : ∃ m, k = m + 1 := ⟨k - 1, by omega⟩
  have hp : (pre.length : Int) ≤ 1000 := by simp at hl; omega
  have ih := oneOf_l0 n suf (pre ++ [x]) k (by simpa using hl) (by simp at hk; omega)
  have e1 : ((pre ++ [x]).length : Int) = (pre.length : Int) + 1 := by simp
  have e2 : pre ++ [x] ++ suf = pre ++ x :: suf := by simp
  rw [e1, e2] at ih
  have e3 : rd (pre ++ x :: suf) (pre.length : Int) = x := by
   unfold rd
   rw [Int.toNat_natCast, List.getD_eq_getElem?_getD]
   simp
  have e4 : wrap64 ((pre.length : Int) + 1) = (pre.length : Int) + 1 := by unfold wrap64; omega
  have e5 : (pre.length : Int) < ((pre ++ x :: suf).length : Int) := by simp only [List.length_append, List.length_cons]; omega
  simp only [impl_oneOf.l0]
  rw [if_pos e5, if_pos (by omega), if_pos e5, e3, e4, ih]
  unfold oneB
  by_cases h : n = x
  ·rw [if_pos h, decide_eq_true (by rw [h]; exact List.mem_cons_self)]
  ·rw [if_neg h]
   congr 1
   rw [decide_eq_decide, List.mem_cons]
   exact ⟨fun g => .inr g, fun g => g.elim (fun g => absurd g h) id⟩
theorem oneOf_eq (n : Int) (l : List Int) (hl : l.length ≤ 20) (k : Nat) (hk : 30 ≤ k) : impl_oneOf.f k n l = some (oneB n l) := oneOf_l0 n l [] k (by simp; omega) (by omega)
def wordB (n : Int) : Bool := oneB n [1, 2]
def prd (i : Nat) (a b s : Int) : Bool :=
 match i with
 | 0 => a == 4
 | 1 => oneB b [4, 3, 6]
 | 2 => s == 6
 | 3 => a == 5 || (b == 5 && !oneB a [3, 14, 12])
 | 4 => (oneB b [9, 10, 13] && a != 3) || (oneB b [9, 10] && s != 0)
 | 5 => s == 8
 | 6 => a == 3
 | 7 => a == 11 || oneB b [11, 14, 12]
 | 8 => (wordB a && wordB b) || (b == 2 && oneB a [12, 13]) || (a == 13 && b == 1) || (wordB a && b == 8) || (a == 9 && wordB b)
 | _ => true
def ansL (i : Nat) : Int :=
 match i with
 | 0 => 2
 | 2 => 1
 | 6 => 1
 | 9 => 1
 | _ => 0
theorem rules_3_eq (a b s : Int) : impl_rules_3.f a b s = some (prd 0 a b s) := by
 rfl
theorem rules_4_eq (a b s : Int) : impl_rules_4.f 30 a b s = some (prd 1 a b s) := by
 unfold impl_rules_4.f
 rw [oneOf_eq _ _ (by decide) 30 (by omega)]
 rfl
theorem rules_5_eq (a b s : Int) : impl_rules_5.f a b s = some (prd 2 a b s) := by
 rfl
theorem rules_6_eq (a b s : Int) : impl_rules_6.f 30 a b s = some (prd 3 a b s) := by
 unfold impl_rules_6.f prd
 rw [oneOf_eq _ _ (by decide) 30 (by omega)]
 by_cases h1 : a = 5 <;> by_cases h2 : b = 5 <;> simp [h1, h2]
theorem rules_7_eq (a b s : Int) : impl_rules_7.f 30 a b s = some (prd 4 a b s) := by
 unfold impl_rules_7.f prd
 rw [oneOf_eq _ _ (by decide) 30 (by omega), oneOf_eq _ _ (by decide) 30 (by omega)]
 simp only [Option.bind_some]
 cases oneB b [9, 10, 13] <;> cases oneB b [9, 10] <;> by_cases h : a = 3 <;> simp [h]
theorem rules_8_eq (a b s : Int) : impl_rules_8.f a b s = some (prd 5 a b s) := by
 rfl
theorem rules_9_eq (a b s : Int) : impl_rules_9.f a b s = some (prd 6 a b s) := by
 rfl
theorem rules_10_eq (a b s : Int) : impl_rules_10.f 30 a b s = some (prd 7 a b s) := by
 unfold impl_rules_10.f prd
 rw [oneOf_eq _ _ (by decide) 30 (by omega)]
 by_cases h1 : a = 11 <;> simp [h1]
theorem rules_12_eq (a b s : Int) : impl_rules_12.f a b s = some true := rfl
theorem rules_2_eq (n : Int) : impl_rules_2.f 30 n = some (wordB n) := by
 unfold impl_rules_2.f
 rw [oneOf_eq _ _ (by decide) 30 (by omega)]
 rfl
set_option maxHeartbeats 2000000 in
set_option maxRecDepth 100000 in
theorem verdict136 (b1 b2 : Nat) (ans a b s : Int) (r : Bool) (w : World) (h1 : w.cell? ⟨b1, 0, none⟩ = some (.int .i64 ans)) (h2 : w.cell? ⟨b2, 0, none⟩ = some (.func (.func 136) #[] #[]))
  (hr : ∀ W, Calls Try.prog 136 #[.agg #[.int .i64 a, .int .i64 b, .int .i64 s]] W fun e W' => e = .returned (.bool r) ∧ Below W.heap.size W W') :
  Calls Try.prog 133 #[.agg #[.int .i64 a, .int .i64 b, .int .i64 s], .pointer (some ⟨b1, 0, none⟩), .pointer (some ⟨b2, 0, none⟩)] w fun e w' => e = .returned (.tuple #[.int .i64 ans, .bool r]) ∧ Below w.heap.size w w' := by
 have hu99 := Try.underlying99
 have HR := za.mk hr
 clear hr
 go_enter Try.func133, Try.ntmps133
 go_wp2_with ((with_reducible refine zw (N := 3) rfl ?_); refine zca ?hg (N := 3) ?hd (cs := #[.int .i64 a, .int .i64 b, .int .i64 s]) (t := 99) ?hr ?_; (case hd => rfl); (case hg => rfl); (case hr => first | (go_simp; done) | (go_simp; rfl)); intro gb hgb w3 hbox hbel; have HBOX := za.mk hbox; have HBEL := za.mk hbel; have k1 := zja (ze hbel h1); have k2 := zja (ze hbel h2); have x0 : ∀ p : zva w3, p.out.cell? ⟨gb, 0, none⟩ = some (.int .i64 a) := zja ((zf HBOX.out 0).trans rfl); have x1 : ∀ p : zva w3, p.out.cell? ⟨gb, 1, none⟩ = some (.int .i64 b) := zja ((zf HBOX.out 1).trans rfl); have x2 : ∀ p : zva w3, p.out.cell? ⟨gb, 2, none⟩ = some (.int .i64 s) := zja ((zf HBOX.out 2).trans rfl); clear h1 h2 hgb hbox hbel)
 refine zrb (by kernel_rfl) (by kernel_rfl) ?_
 repeat (quiet_step ((go_at_call 136; exact ztb (HR.out _))))
 refine wpQuiet_nil ?_
 intro _ hw'
 obtain ⟨p, hw''⟩ := hw'
 subst hw''
 go_wp2
 go_ret2
 exact ⟨rfl, zg HBEL.out p.below⟩
set_option maxHeartbeats 2000000 in
set_option maxRecDepth 100000 in
theorem verdict137 (b1 b2 : Nat) (ans a b s : Int) (r : Bool) (w : World) (h1 : w.cell? ⟨b1, 0, none⟩ = some (.int .i64 ans)) (h2 : w.cell? ⟨b2, 0, none⟩ = some (.func (.func 137) #[] #[]))
  (hr : ∀ W, Calls Try.prog 137 #[.agg #[.int .i64 a, .int .i64 b, .int .i64 s]] W fun e W' => e = .returned (.bool r) ∧ Below W.heap.size W W') :
  Calls Try.prog 133 #[.agg #[.int .i64 a, .int .i64 b, .int .i64 s], .pointer (some ⟨b1, 0, none⟩), .pointer (some ⟨b2, 0, none⟩)] w fun e w' => e = .returned (.tuple #[.int .i64 ans, .bool r]) ∧ Below w.heap.size w w' := by
 have hu99 := Try.underlying99
 have HR := za.mk hr
 clear hr
 go_enter Try.func133, Try.ntmps133
 go_wp2_with ((with_reducible refine zw (N := 3) rfl ?_); refine zca ?hg (N := 3) ?hd (cs := #[.int .i64 a, .int .i64 b, .int .i64 s]) (t := 99) ?hr ?_; (case hd => rfl); (case hg => rfl); (case hr => first | (go_simp; done) | (go_simp; rfl)); intro gb hgb w3 hbox hbel; have HBOX := za.mk hbox; have HBEL := za.mk hbel; have k1 := zja (ze hbel h1); have k2 := zja (ze hbel h2); have x0 : ∀ p : zva w3, p.out.cell? ⟨gb, 0, none⟩ = some (.int .i64 a) := zja ((zf HBOX.out 0).trans rfl); have x1 : ∀ p : zva w3, p.out.cell? ⟨gb, 1, none⟩ = some (.int .i64 b) := zja ((zf HBOX.out 1).trans rfl); have x2 : ∀ p : zva w3, p.out.cell? ⟨gb, 2, none⟩ = some (.int .i64 s) := zja ((zf HBOX.out 2).trans rfl); clear h1 h2 hgb hbox hbel)
 refine zrb (by kernel_rfl) (by kernel_rfl) ?_
 repeat (quiet_step ((go_at_call 137; exact ztb (HR.out _))))
 refine wpQuiet_nil ?_
 intro _ hw'
 obtain ⟨p, hw''⟩ := hw'
 subst hw''
 go_wp2
 go_ret2
 exact ⟨rfl, zg HBEL.out p.below⟩
set_option maxHeartbeats 2000000 in
set_option maxRecDepth 100000 in
theorem verdict138 (b1 b2 : Nat) (ans a b s : Int) (r : Bool) (w : World) (h1 : w.cell? ⟨b1, 0, none⟩ = some (.int .i64 ans)) (h2 : w.cell? ⟨b2, 0, none⟩ = some (.func (.func 138) #[] #[]))
  (hr : ∀ W, Calls Try.prog 138 #[.agg #[.int .i64 a, .int .i64 b, .int .i64 s]] W fun e W' => e = .returned (.bool r) ∧ Below W.heap.size W W') :
  Calls Try.prog 133 #[.agg #[.int .i64 a, .int .i64 b, .int .i64 s], .pointer (some ⟨b1, 0, none⟩), .pointer (some ⟨b2, 0, none⟩)] w fun e w' => e = .returned (.tuple #[.int .i64 ans, .bool r]) ∧ Below w.heap.size w w' := by
 have hu99 := Try.underlying99
 have HR := za.mk hr
 clear hr
 go_enter Try.func133, Try.ntmps133
 go_wp2_with ((with_reducible refine zw (N := 3) rfl ?_); refine zca ?hg (N := 3) ?hd (cs := #[.int .i64 a, .int .i64 b, .int .i64 s]) (t := 99) ?hr ?_; (case hd => rfl); (case hg => rfl); (case hr => first | (go_simp; done) | (go_simp; rfl)); intro gb hgb w3 hbox hbel; have HBOX := za.mk hbox; have HBEL := za.mk hbel; have k1 := zja (ze hbel h1); have k2 := zja (ze hbel h2); have x0 : ∀ p : zva w3, p.out.cell? ⟨gb, 0, none⟩ = some (.int .i64 a) := zja ((zf HBOX.out 0).trans rfl); have x1 : ∀ p : zva w3, p.out.cell? ⟨gb, 1, none⟩ = some (.int .i64 b) := zja ((zf HBOX.out 1).trans rfl); have x2 : ∀ p : zva w3, p.out.cell? ⟨gb, 2, none⟩ = some (.int .i64 s) := zja ((zf HBOX.out 2).trans rfl); clear h1 h2 hgb hbox hbel)
 refine zrb (by kernel_rfl) (by kernel_rfl) ?_
 repeat (quiet_step ((go_at_call 138; exact ztb (HR.out _))))
 refine wpQuiet_nil ?_
 intro _ hw'
 obtain ⟨p, hw''⟩ := hw'
 subst hw''
 go_wp2
 go_ret2
 exact ⟨rfl, zg HBEL.out p.below⟩
set_option maxHeartbeats 2000000 in
set_option maxRecDepth 100000 in
theorem verdict139 (b1 b2 : Nat) (ans a b s : Int) (r : Bool) (w : World) (h1 : w.cell? ⟨b1, 0, none⟩ = some (.int .i64 ans)) (h2 : w.cell? ⟨b2, 0, none⟩ = some (.func (.func 139) #[] #[]))
  (hr : ∀ W, Calls Try.prog 139 #[.agg #[.int .i64 a, .int .i64 b, .int .i64 s]] W fun e W' => e = .returned (.bool r) ∧ Below W.heap.size W W') :
  Calls Try.prog 133 #[.agg #[.int .i64 a, .int .i64 b, .int .i64 s], .pointer (some ⟨b1, 0, none⟩), .pointer (some ⟨b2, 0, none⟩)] w fun e w' => e = .returned (.tuple #[.int .i64 ans, .bool r]) ∧ Below w.heap.size w w' := by
 have hu99 := Try.underlying99
 have HR := za.mk hr
 clear hr
 go_enter Try.func133, Try.ntmps133
 go_wp2_with ((with_reducible refine zw (N := 3) rfl ?_); refine zca ?hg (N := 3) ?hd (cs := #[.int .i64 a, .int .i64 b, .int .i64 s]) (t := 99) ?hr ?_; (case hd => rfl); (case hg => rfl); (case hr => first | (go_simp; done) | (go_simp; rfl)); intro gb hgb w3 hbox hbel; have HBOX := za.mk hbox; have HBEL := za.mk hbel; have k1 := zja (ze hbel h1); have k2 := zja (ze hbel h2); have x0 : ∀ p : zva w3, p.out.cell? ⟨gb, 0, none⟩ = some (.int .i64 a) := zja ((zf HBOX.out 0).trans rfl); have x1 : ∀ p : zva w3, p.out.cell? ⟨gb, 1, none⟩ = some (.int .i64 b) := zja ((zf HBOX.out 1).trans rfl); have x2 : ∀ p : zva w3, p.out.cell? ⟨gb, 2, none⟩ = some (.int .i64 s) := zja ((zf HBOX.out 2).trans rfl); clear h1 h2 hgb hbox hbel)
 refine zrb (by kernel_rfl) (by kernel_rfl) ?_
 repeat (quiet_step ((go_at_call 139; exact ztb (HR.out _))))
 refine wpQuiet_nil ?_
 intro _ hw'
 obtain ⟨p, hw''⟩ := hw'
 subst hw''
 go_wp2
 go_ret2
 exact ⟨rfl, zg HBEL.out p.below⟩
set_option maxHeartbeats 2000000 in
set_option maxRecDepth 100000 in
theorem verdict140 (b1 b2 : Nat) (ans a b s : Int) (r : Bool) (w : World) (h1 : w.cell? ⟨b1, 0, none⟩ = some (.int .i64 ans)) (h2 : w.cell? ⟨b2, 0, none⟩ = some (.func (.func 140) #[] #[]))
  (hr : ∀ W, Calls Try.prog 140 #[.agg #[.int .i64 a, .int .i64 b, .int .i64 s]] W fun e W' => e = .returned (.bool r) ∧ Below W.heap.size W W') :
  Calls Try.prog 133 #[.agg #[.int .i64 a, .int .i64 b, .int .i64 s], .pointer (some ⟨b1, 0, none⟩), .pointer (some ⟨b2, 0, none⟩)] w fun e w' => e = .returned (.tuple #[.int .i64 ans, .bool r]) ∧ Below w.heap.size w w' := by
 have hu99 := Try.underlying99
 have HR := za.mk hr
 clear hr
 go_enter Try.func133, Try.ntmps133
 go_wp2_with ((with_reducible refine zw (N := 3) rfl ?_); refine zca ?hg (N := 3) ?hd (cs := #[.int .i64 a, .int .i64 b, .int .i64 s]) (t := 99) ?hr ?_; (case hd => rfl); (case hg => rfl); (case hr => first | (go_simp; done) | (go_simp; rfl)); intro gb hgb w3 hbox hbel; have HBOX := za.mk hbox; have HBEL := za.mk hbel; have k1 := zja (ze hbel h1); have k2 := zja (ze hbel h2); have x0 : ∀ p : zva w3, p.out.cell? ⟨gb, 0, none⟩ = some (.int .i64 a) := zja ((zf HBOX.out 0).trans rfl); have x1 : ∀ p : zva w3, p.out.cell? ⟨gb, 1, none⟩ = some (.int .i64 b) := zja ((zf HBOX.out 1).trans rfl); have x2 : ∀ p : zva w3, p.out.cell? ⟨gb, 2, none⟩ = some (.int .i64 s) := zja ((zf HBOX.out 2).trans rfl); clear h1 h2 hgb hbox hbel)
 refine zrb (by kernel_rfl) (by kernel_rfl) ?_
 repeat (quiet_step ((go_at_call 140; exact ztb (HR.out _))))
 refine wpQuiet_nil ?_
 intro _ hw'
 obtain ⟨p, hw''⟩ := hw'
 subst hw''
 go_wp2
 go_ret2
 exact ⟨rfl, zg HBEL.out p.below⟩
set_option maxHeartbeats 2000000 in
set_option maxRecDepth 100000 in
theorem verdict141 (b1 b2 : Nat) (ans a b s : Int) (r : Bool) (w : World) (h1 : w.cell? ⟨b1, 0, none⟩ = some (.int .i64 ans)) (h2 : w.cell? ⟨b2, 0, none⟩ = some (.func (.func 141) #[] #[]))
  (hr : ∀ W, Calls Try.prog 141 #[.agg #[.int .i64 a, .int .i64 b, .int .i64 s]] W fun e W' => e = .returned (.bool r) ∧ Below W.heap.size W W') :
  Calls Try.prog 133 #[.agg #[.int .i64 a, .int .i64 b, .int .i64 s], .pointer (some ⟨b1, 0, none⟩), .pointer (some ⟨b2, 0, none⟩)] w fun e w' => e = .returned (.tuple #[.int .i64 ans, .bool r]) ∧ Below w.heap.size w w' := by
 have hu99 := Try.underlying99
 have HR := za.mk hr
 clear hr
 go_enter Try.func133, Try.ntmps133
 go_wp2_with ((with_reducible refine zw (N := 3) rfl ?_); refine zca ?hg (N := 3) ?hd (cs := #[.int .i64 a, .int .i64 b, .int .i64 s]) (t := 99) ?hr ?_; (case hd => rfl); (case hg => rfl); (case hr => first | (go_simp; done) | (go_simp; rfl)); intro gb hgb w3 hbox hbel; have HBOX := za.mk hbox; have HBEL := za.mk hbel; have k1 := zja (ze hbel h1); have k2 := zja (ze hbel h2); have x0 : ∀ p : zva w3, p.out.cell? ⟨gb, 0, none⟩ = some (.int .i64 a) := zja ((zf HBOX.out 0).trans rfl); have x1 : ∀ p : zva w3, p.out.cell? ⟨gb, 1, none⟩ = some (.int .i64 b) := zja ((zf HBOX.out 1).trans rfl); have x2 : ∀ p : zva w3, p.out.cell? ⟨gb, 2, none⟩ = some (.int .i64 s) := zja ((zf HBOX.out 2).trans rfl); clear h1 h2 hgb hbox hbel)
 refine zrb (by kernel_rfl) (by kernel_rfl) ?_
 repeat (quiet_step ((go_at_call 141; exact ztb (HR.out _))))
 refine wpQuiet_nil ?_
 intro _ hw'
 obtain ⟨p, hw''⟩ := hw'
 subst hw''
 go_wp2
 go_ret2
 exact ⟨rfl, zg HBEL.out p.below⟩
set_option maxHeartbeats 2000000 in
set_option maxRecDepth 100000 in
theorem verdict142 (b1 b2 : Nat) (ans a b s : Int) (r : Bool) (w : World) (h1 : w.cell? ⟨b1, 0, none⟩ = some (.int .i64 ans)) (h2 : w.cell? ⟨b2, 0, none⟩ = some (.func (.func 142) #[] #[]))
  (hr : ∀ W, Calls Try.prog 142 #[.agg #[.int .i64 a, .int .i64 b, .int .i64 s]] W fun e W' => e = .returned (.bool r) ∧ Below W.heap.size W W') :
  Calls Try.prog 133 #[.agg #[.int .i64 a, .int .i64 b, .int .i64 s], .pointer (some ⟨b1, 0, none⟩), .pointer (some ⟨b2, 0, none⟩)] w fun e w' => e = .returned (.tuple #[.int .i64 ans, .bool r]) ∧ Below w.heap.size w w' := by
 have hu99 := Try.underlying99
 have HR := za.mk hr
 clear hr
 go_enter Try.func133, Try.ntmps133
 go_wp2_with ((with_reducible refine zw (N := 3) rfl ?_); refine zca ?hg (N := 3) ?hd (cs := #[.int .i64 a, .int .i64 b, .int .i64 s]) (t := 99) ?hr ?_; (case hd => rfl); (case hg => rfl); (case hr => first | (go_simp; done) | (go_simp; rfl)); intro gb hgb w3 hbox hbel; have HBOX := za.mk hbox; have HBEL := za.mk hbel; have k1 := zja (ze hbel h1); have k2 := zja (ze hbel h2); have x0 : ∀ p : zva w3, p.out.cell? ⟨gb, 0, none⟩ = some (.int .i64 a) := zja ((zf HBOX.out 0).trans rfl); have x1 : ∀ p : zva w3, p.out.cell? ⟨gb, 1, none⟩ = some (.int .i64 b) := zja ((zf HBOX.out 1).trans rfl); have x2 : ∀ p : zva w3, p.out.cell? ⟨gb, 2, none⟩ = some (.int .i64 s) := zja ((zf HBOX.out 2).trans rfl); clear h1 h2 hgb hbox hbel)
 refine zrb (by kernel_rfl) (by kernel_rfl) ?_
 repeat (quiet_step ((go_at_call 142; exact ztb (HR.out _))))
 refine wpQuiet_nil ?_
 intro _ hw'
 obtain ⟨p, hw''⟩ := hw'
 subst hw''
 go_wp2
 go_ret2
 exact ⟨rfl, zg HBEL.out p.below⟩
set_option maxHeartbeats 2000000 in
set_option maxRecDepth 100000 in
theorem verdict143 (b1 b2 : Nat) (ans a b s : Int) (r : Bool) (w : World) (h1 : w.cell? ⟨b1, 0, none⟩ = some (.int .i64 ans)) (h2 : w.cell? ⟨b2, 0, none⟩ = some (.func (.func 143) #[] #[]))
  (hr : ∀ W, Calls Try.prog 143 #[.agg #[.int .i64 a, .int .i64 b, .int .i64 s]] W fun e W' => e = .returned (.bool r) ∧ Below W.heap.size W W') :
  Calls Try.prog 133 #[.agg #[.int .i64 a, .int .i64 b, .int .i64 s], .pointer (some ⟨b1, 0, none⟩), .pointer (some ⟨b2, 0, none⟩)] w fun e w' => e = .returned (.tuple #[.int .i64 ans, .bool r]) ∧ Below w.heap.size w w' := by
 have hu99 := Try.underlying99
 have HR := za.mk hr
 clear hr
 go_enter Try.func133, Try.ntmps133
 go_wp2_with ((with_reducible refine zw (N := 3) rfl ?_); refine zca ?hg (N := 3) ?hd (cs := #[.int .i64 a, .int .i64 b, .int .i64 s]) (t := 99) ?hr ?_; (case hd => rfl); (case hg => rfl); (case hr => first | (go_simp; done) | (go_simp; rfl)); intro gb hgb w3 hbox hbel; have HBOX := za.mk hbox; have HBEL := za.mk hbel; have k1 := zja (ze hbel h1); have k2 := zja (ze hbel h2); have x0 : ∀ p : zva w3, p.out.cell? ⟨gb, 0, none⟩ = some (.int .i64 a) := zja ((zf HBOX.out 0).trans rfl); have x1 : ∀ p : zva w3, p.out.cell? ⟨gb, 1, none⟩ = some (.int .i64 b) := zja ((zf HBOX.out 1).trans rfl); have x2 : ∀ p : zva w3, p.out.cell? ⟨gb, 2, none⟩ = some (.int .i64 s) := zja ((zf HBOX.out 2).trans rfl); clear h1 h2 hgb hbox hbel)
 refine zrb (by kernel_rfl) (by kernel_rfl) ?_
 repeat (quiet_step ((go_at_call 143; exact ztb (HR.out _))))
 refine wpQuiet_nil ?_
 intro _ hw'
 obtain ⟨p, hw''⟩ := hw'
 subst hw''
 go_wp2
 go_ret2
 exact ⟨rfl, zg HBEL.out p.below⟩
set_option maxHeartbeats 2000000 in
set_option maxRecDepth 100000 in
theorem verdict145 (b1 b2 : Nat) (ans a b s : Int) (r : Bool) (w : World) (h1 : w.cell? ⟨b1, 0, none⟩ = some (.int .i64 ans)) (h2 : w.cell? ⟨b2, 0, none⟩ = some (.func (.func 145) #[] #[]))
  (hr : ∀ W, Calls Try.prog 145 #[.agg #[.int .i64 a, .int .i64 b, .int .i64 s]] W fun e W' => e = .returned (.bool r) ∧ Below W.heap.size W W') :
  Calls Try.prog 133 #[.agg #[.int .i64 a, .int .i64 b, .int .i64 s], .pointer (some ⟨b1, 0, none⟩), .pointer (some ⟨b2, 0, none⟩)] w fun e w' => e = .returned (.tuple #[.int .i64 ans, .bool r]) ∧ Below w.heap.size w w' := by
 have hu99 := Try.underlying99
 have HR := za.mk hr
 clear hr
 go_enter Try.func133, Try.ntmps133
 go_wp2_with ((with_reducible refine zw (N := 3) rfl ?_); refine zca ?hg (N := 3) ?hd (cs := #[.int .i64 a, .int .i64 b, .int .i64 s]) (t := 99) ?hr ?_; (case hd => rfl); (case hg => rfl); (case hr => first | (go_simp; done) | (go_simp; rfl)); intro gb hgb w3 hbox hbel; have HBOX := za.mk hbox; have HBEL := za.mk hbel; have k1 := zja (ze hbel h1); have k2 := zja (ze hbel h2); have x0 : ∀ p : zva w3, p.out.cell? ⟨gb, 0, none⟩ = some (.int .i64 a) := zja ((zf HBOX.out 0).trans rfl); have x1 : ∀ p : zva w3, p.out.cell? ⟨gb, 1, none⟩ = some (.int .i64 b) := zja ((zf HBOX.out 1).trans rfl); have x2 : ∀ p : zva w3, p.out.cell? ⟨gb, 2, none⟩ = some (.int .i64 s) := zja ((zf HBOX.out 2).trans rfl); clear h1 h2 hgb hbox hbel)
 refine zrb (by kernel_rfl) (by kernel_rfl) ?_
 repeat (quiet_step ((go_at_call 145; exact ztb (HR.out _))))
 refine wpQuiet_nil ?_
 intro _ hw'
 obtain ⟨p, hw''⟩ := hw'
 subst hw''
 go_wp2
 go_ret2
 exact ⟨rfl, zg HBEL.out p.below⟩
set_option maxHeartbeats 2000000 in
set_option maxRecDepth 100000 in
theorem zxb (ans : Int) (f : Nat) (caps : Array Value) (w : World) :
  Calls Try.prog 132 #[.int .i64 ans, .func (.func f) #[] caps] w fun e w' => ∃ b1 b2 : Nat, e = .returned (.func (.func 133) #[] #[.pointer (some ⟨b1, 0, none⟩), .pointer (some ⟨b2, 0, none⟩)]) ∧ (w'.heap[b1]? = some (.cells #[.int .i64 ans] 3 (0, 0)) ∧ w'.heap[b2]? = some (.cells #[.func (.func f) #[] caps] 110 (0, 0))) ∧ Below w.heap.size w w' := by
 go_enter Try.func132, Try.ntmps132
 go_wp2
 go_ret
 exact ⟨_, _, rfl, ⟨zx (blk_new w _) _, by simpa using blk_new (w.alloc (.cells #[.int .i64 ans] 3 (0, 0))) (.cells #[.func (.func f) #[] caps] 110 (0, 0))⟩, zc (zc (Below.refl _ _) _) _⟩
set_option maxHeartbeats 20000000 in
set_option maxRecDepth 100000 in
theorem rule11_calls (b0 : Nat) (a b s : Int) (w : World) (h0 : w.cell? ⟨b0, 0, none⟩ = some (.func (.func 134) #[] #[])) :
  Calls Try.prog 144 #[.agg #[.int .i64 a, .int .i64 b, .int .i64 s], .pointer (some ⟨b0, 0, none⟩)] w fun e w' => e = .returned (.bool (prd 8 a b s)) ∧ Below w.heap.size w w' := by
 have hu99 := Try.underlying99
 have HW := za.mk (fun (x : Int) (W : World) => impl_rules_2.calls 30 x _ W (rules_2_eq x))
 obtain ⟨y1, hy1⟩ : ∃ y_ : List Int, y_ = ([12, 13] : List Int) := ⟨_, rfl⟩
 have Ny1 := za.mk hy1
 have HONE : za (impl_oneOf.f 30 a y1 = some (oneB a [12, 13])) := ⟨by rw [hy1]; exact oneOf_eq _ _ (by decide) 30 (by omega)⟩
 clear hy1
 cases hwa : wordB a with
 | true =>
  cases hwb : wordB b with
  | true =>
   have Hwa := za.mk hwa
   have Hwb := za.mk hwb
   have HP : za (prd 8 a b s = true) := ⟨by unfold prd; simp only [Hwa.out, Hwb.out]; rfl⟩
   go_enter Try.func144, Try.ntmps144
   go_wp2_with (first
    | ((with_reducible refine zw (N := 2) rfl ?_); refine zca ?hg (N := 2) ?hd (cs := #[.int .i64 a, .int .i64 b, .int .i64 s]) (t := 99) ?hr ?_; (case hd => rfl); (case hg => rfl); (case hr => first | (go_simp; done) | (go_simp; rfl)); intro gb hgb w3 hbox hb; have HBOX := za.mk hbox; have x0 : w3.cell? ⟨gb, 0, none⟩ = some (.int .i64 a) := (zf HBOX.out 0).trans rfl; have x1 : w3.cell? ⟨gb, 1, none⟩ = some (.int .i64 b) := (zf HBOX.out 1).trans rfl; have x2 : w3.cell? ⟨gb, 2, none⟩ = some (.int .i64 s) := (zf HBOX.out 2).trans rfl; have n0 := ze hb h0; clear h0; have h0 := n0; have HBW := za.mk hb; clear n0 hgb hbox hb)
    | (go_at_call 134; refine (HW.out _ _).mono ?_; rintro e w9 ⟨rfl, hb⟩; have n0 := ze hb h0; have n1 := ze hb x0; have n2 := ze hb x1; have n3 := ze hb x2; have n4 := zg HBW.out hb; clear h0 x0 x1 x2 HBW; have h0 := n0; have x0 := n1; have x1 := n2; have x2 := n3; have HBW := za.mk n4; clear n0 n1 n2 n3 n4 hb)
    | ((with_reducible refine zw (N := 21) rfl ?_); (try (refine zla (by rfl) ?_; dsimp only)); refine Kd.zwa (Kd.int .i64) _ 3 ?hg (N := 21) ?hd (xs := ([12, 13] : List Int)) (inner := [.int .i64 12, .int .i64 13]) (ok := fun _ => True) (okp := fun _ => True) ?hr ?hp (fun _ hk => hk) trivial (Below.refl _ _) (Nat.le_refl _) (by simp) ?_; (case hd => rfl); (case hg => rfl); (case hr => first | (go_simp; done) | (go_simp; rfl)); (case hp => exact (Reps.one (show Kd.M (Kd.int .i64) _ _ _ 12 [.int .i64 12] from rfl) (Reps.one (show Kd.M (Kd.int .i64) _ _ _ 13 [.int .i64 13] from rfl) (Reps.none _ _)))); intro v289 w10 ho10 hb hg_ hnew_; clear hg_ hnew_; rw [← Ny1.out] at ho10; have HO := za.mk ho10; clear ho10; have n0 := ze hb h0; have n1 := ze hb x0; have n2 := ze hb x1; have n3 := ze hb x2; have n4 := zg HBW.out hb; clear h0 x0 x1 x2 HBW; have h0 := n0; have x0 := n1; have x1 := n2; have x2 := n3; have HBW := za.mk n4; clear n0 n1 n2 n3 n4 hb; obtain ⟨Ao, co, eo⟩ := Kd.zia HO.out; subst eo)
    | (go_at_call 135; refine (impl_oneOf.calls 30 _ _ _ y1 _ _ (Kd.zt HO.out).2.2 (Kd.zt HO.out).2.1 HONE.out).mono ?_; rintro e w11 ⟨rfl, ⟨nd, rfl⟩⟩; have n4 := zb HBW.out nd; clear HBW; have HBW := za.mk n4; clear n4))
   go_ret
   exact ⟨by rw [HP.out]; rfl, (by repeat (first | (with_reducible first | exact HBW.out | apply zc | apply zb | apply zd) | exact HBW.out))⟩
  | false =>
   cases hb2 : (b == 2) with
   | true =>
    have gb2 := za.mk hb2
    have hb1 : (b == 1) = false := by have z := beq_iff_eq.1 gb2.out; rw [z]; rfl
    have gb1 := za.mk hb1
    have hb8 : (b == 8) = false := by have z := beq_iff_eq.1 gb2.out; rw [z]; rfl
    have gb8 := za.mk hb8
    cases hoo : oneB a [12, 13] with
    | true =>
     have Hwa := za.mk hwa
     have Hwb := za.mk hwb
     have Hoo := za.mk hoo
     have HP : za (prd 8 a b s = true) := ⟨by unfold prd; simp only [Hwa.out, Hwb.out, gb2.out, gb1.out, gb8.out, Hoo.out]; rfl⟩
     go_enter Try.func144, Try.ntmps144
     go_wp2_with (first
      | ((with_reducible refine zw (N := 2) rfl ?_); refine zca ?hg (N := 2) ?hd (cs := #[.int .i64 a, .int .i64 b, .int .i64 s]) (t := 99) ?hr ?_; (case hd => rfl); (case hg => rfl); (case hr => first | (go_simp; done) | (go_simp; rfl)); intro gb hgb w3 hbox hb; have HBOX := za.mk hbox; have x0 : w3.cell? ⟨gb, 0, none⟩ = some (.int .i64 a) := (zf HBOX.out 0).trans rfl; have x1 : w3.cell? ⟨gb, 1, none⟩ = some (.int .i64 b) := (zf HBOX.out 1).trans rfl; have x2 : w3.cell? ⟨gb, 2, none⟩ = some (.int .i64 s) := (zf HBOX.out 2).trans rfl; have n0 := ze hb h0; clear h0; have h0 := n0; have HBW := za.mk hb; clear n0 hgb hbox hb)
      | (go_at_call 134; refine (HW.out _ _).mono ?_; rintro e w9 ⟨rfl, hb⟩; have n0 := ze hb h0; have n1 := ze hb x0; have n2 := ze hb x1; have n3 := ze hb x2; have n4 := zg HBW.out hb; clear h0 x0 x1 x2 HBW; have h0 := n0; have x0 := n1; have x1 := n2; have x2 := n3; have HBW := za.mk n4; clear n0 n1 n2 n3 n4 hb)
      | ((with_reducible refine zw (N := 21) rfl ?_); (try (refine zla (by rfl) ?_; dsimp only)); refine Kd.zwa (Kd.int .i64) _ 3 ?hg (N := 21) ?hd (xs := ([12, 13] : List Int)) (inner := [.int .i64 12, .int .i64 13]) (ok := fun _ => True) (okp := fun _ => True) ?hr ?hp (fun _ hk => hk) trivial (Below.refl _ _) (Nat.le_refl _) (by simp) ?_; (case hd => rfl); (case hg => rfl); (case hr => first | (go_simp; done) | (go_simp; rfl)); (case hp => exact (Reps.one (show Kd.M (Kd.int .i64) _ _ _ 12 [.int .i64 12] from rfl) (Reps.one (show Kd.M (Kd.int .i64) _ _ _ 13 [.int .i64 13] from rfl) (Reps.none _ _)))); intro v289 w10 ho10 hb hg_ hnew_; clear hg_ hnew_; rw [← Ny1.out] at ho10; have HO := za.mk ho10; clear ho10; have n0 := ze hb h0; have n1 := ze hb x0; have n2 := ze hb x1; have n3 := ze hb x2; have n4 := zg HBW.out hb; clear h0 x0 x1 x2 HBW; have h0 := n0; have x0 := n1; have x1 := n2; have x2 := n3; have HBW := za.mk n4; clear n0 n1 n2 n3 n4 hb; obtain ⟨Ao, co, eo⟩ := Kd.zia HO.out; subst eo)
      | (go_at_call 135; refine (impl_oneOf.calls 30 _ _ _ y1 _ _ (Kd.zt HO.out).2.2 (Kd.zt HO.out).2.1 HONE.out).mono ?_; rintro e w11 ⟨rfl, ⟨nd, rfl⟩⟩; have n4 := zb HBW.out nd; clear HBW; have HBW := za.mk n4; clear n4))
     go_ret
     exact ⟨by rw [HP.out]; rfl, (by repeat (first | (with_reducible first | exact HBW.out | apply zc | apply zb | apply zd) | exact HBW.out))⟩
    | false =>
     cases ha13 : (a == 13) with
     | true =>
      have ga13 := za.mk ha13
      have ha9 : (a == 9) = false := by have z := beq_iff_eq.1 ga13.out; rw [z]; rfl
      have ga9 := za.mk ha9
      have Hwa := za.mk hwa
      have Hwb := za.mk hwb
      have Hoo := za.mk hoo
      have HP : za (prd 8 a b s = false) := ⟨by unfold prd; simp only [Hwa.out, Hwb.out, gb2.out, gb1.out, gb8.out, Hoo.out, ga13.out, ga9.out]; rfl⟩
      go_enter Try.func144, Try.ntmps144
      go_wp2_with (first
       | ((with_reducible refine zw (N := 2) rfl ?_); refine zca ?hg (N := 2) ?hd (cs := #[.int .i64 a, .int .i64 b, .int .i64 s]) (t := 99) ?hr ?_; (case hd => rfl); (case hg => rfl); (case hr => first | (go_simp; done) | (go_simp; rfl)); intro gb hgb w3 hbox hb; have HBOX := za.mk hbox; have x0 : w3.cell? ⟨gb, 0, none⟩ = some (.int .i64 a) := (zf HBOX.out 0).trans rfl; have x1 : w3.cell? ⟨gb, 1, none⟩ = some (.int .i64 b) := (zf HBOX.out 1).trans rfl; have x2 : w3.cell? ⟨gb, 2, none⟩ = some (.int .i64 s) := (zf HBOX.out 2).trans rfl; have n0 := ze hb h0; clear h0; have h0 := n0; have HBW := za.mk hb; clear n0 hgb hbox hb)
       | (go_at_call 134; refine (HW.out _ _).mono ?_; rintro e w9 ⟨rfl, hb⟩; have n0 := ze hb h0; have n1 := ze hb x0; have n2 := ze hb x1; have n3 := ze hb x2; have n4 := zg HBW.out hb; clear h0 x0 x1 x2 HBW; have h0 := n0; have x0 := n1; have x1 := n2; have x2 := n3; have HBW := za.mk n4; clear n0 n1 n2 n3 n4 hb)
       | ((with_reducible refine zw (N := 21) rfl ?_); (try (refine zla (by rfl) ?_; dsimp only)); refine Kd.zwa (Kd.int .i64) _ 3 ?hg (N := 21) ?hd (xs := ([12, 13] : List Int)) (inner := [.int .i64 12, .int .i64 13]) (ok := fun _ => True) (okp := fun _ => True) ?hr ?hp (fun _ hk => hk) trivial (Below.refl _ _) (Nat.le_refl _) (by simp) ?_; (case hd => rfl); (case hg => rfl); (case hr => first | (go_simp; done) | (go_simp; rfl)); (case hp => exact (Reps.one (show Kd.M (Kd.int .i64) _ _ _ 12 [.int .i64 12] from rfl) (Reps.one (show Kd.M (Kd.int .i64) _ _ _ 13 [.int .i64 13] from rfl) (Reps.none _ _)))); intro v289 w10 ho10 hb hg_ hnew_; clear hg_ hnew_; rw [← Ny1.out] at ho10; have HO := za.mk ho10; clear ho10; have n0 := ze hb h0; have n1 := ze hb x0; have n2 := ze hb x1; have n3 := ze hb x2; have n4 := zg HBW.out hb; clear h0 x0 x1 x2 HBW; have h0 := n0; have x0 := n1; have x1 := n2; have x2 := n3; have HBW := za.mk n4; clear n0 n1 n2 n3 n4 hb; obtain ⟨Ao, co, eo⟩ := Kd.zia HO.out; subst eo)
       | (go_at_call 135; refine (impl_oneOf.calls 30 _ _ _ y1 _ _ (Kd.zt HO.out).2.2 (Kd.zt HO.out).2.1 HONE.out).mono ?_; rintro e w11 ⟨rfl, ⟨nd, rfl⟩⟩; have n4 := zb HBW.out nd; clear HBW; have HBW := za.mk n4; clear n4))
      go_ret
      exact ⟨by rw [HP.out]; rfl, (by repeat (first | (with_reducible first | exact HBW.out | apply zc | apply zb | apply zd) | exact HBW.out))⟩
     | false =>
      have ga13 := za.mk ha13
      cases ha9 : (a == 9) with
      | true =>
       have ga9 := za.mk ha9
       have Hwa := za.mk hwa
       have Hwb := za.mk hwb
       have Hoo := za.mk hoo
       have HP : za (prd 8 a b s = false) := ⟨by unfold prd; simp only [Hwa.out, Hwb.out, gb2.out, gb1.out, gb8.out, Hoo.out, ga13.out, ga9.out]; rfl⟩
       go_enter Try.func144, Try.ntmps144
       go_wp2_with (first
        | ((with_reducible refine zw (N := 2) rfl ?_); refine zca ?hg (N := 2) ?hd (cs := #[.int .i64 a, .int .i64 b, .int .i64 s]) (t := 99) ?hr ?_; (case hd => rfl); (case hg => rfl); (case hr => first | (go_simp; done) | (go_simp; rfl)); intro gb hgb w3 hbox hb; have HBOX := za.mk hbox; have x0 : w3.cell? ⟨gb, 0, none⟩ = some (.int .i64 a) := (zf HBOX.out 0).trans rfl; have x1 : w3.cell? ⟨gb, 1, none⟩ = some (.int .i64 b) := (zf HBOX.out 1).trans rfl; have x2 : w3.cell? ⟨gb, 2, none⟩ = some (.int .i64 s) := (zf HBOX.out 2).trans rfl; have n0 := ze hb h0; clear h0; have h0 := n0; have HBW := za.mk hb; clear n0 hgb hbox hb)
        | (go_at_call 134; refine (HW.out _ _).mono ?_; rintro e w9 ⟨rfl, hb⟩; have n0 := ze hb h0; have n1 := ze hb x0; have n2 := ze hb x1; have n3 := ze hb x2; have n4 := zg HBW.out hb; clear h0 x0 x1 x2 HBW; have h0 := n0; have x0 := n1; have x1 := n2; have x2 := n3; have HBW := za.mk n4; clear n0 n1 n2 n3 n4 hb)
        | ((with_reducible refine zw (N := 21) rfl ?_); (try (refine zla (by rfl) ?_; dsimp only)); refine Kd.zwa (Kd.int .i64) _ 3 ?hg (N := 21) ?hd (xs := ([12, 13] : List Int)) (inner := [.int .i64 12, .int .i64 13]) (ok := fun _ => True) (okp := fun _ => True) ?hr ?hp (fun _ hk => hk) trivial (Below.refl _ _) (Nat.le_refl _) (by simp) ?_; (case hd => rfl); (case hg => rfl); (case hr => first | (go_simp; done) | (go_simp; rfl)); (case hp => exact (Reps.one (show Kd.M (Kd.int .i64) _ _ _ 12 [.int .i64 12] from rfl) (Reps.one (show Kd.M (Kd.int .i64) _ _ _ 13 [.int .i64 13] from rfl) (Reps.none _ _)))); intro v289 w10 ho10 hb hg_ hnew_; clear hg_ hnew_; rw [← Ny1.out] at ho10; have HO := za.mk ho10; clear ho10; have n0 := ze hb h0; have n1 := ze hb x0; have n2 := ze hb x1; have n3 := ze hb x2; have n4 := zg HBW.out hb; clear h0 x0 x1 x2 HBW; have h0 := n0; have x0 := n1; have x1 := n2; have x2 := n3; have HBW := za.mk n4; clear n0 n1 n2 n3 n4 hb; obtain ⟨Ao, co, eo⟩ := Kd.zia HO.out; subst eo)
        | (go_at_call 135; refine (impl_oneOf.calls 30 _ _ _ y1 _ _ (Kd.zt HO.out).2.2 (Kd.zt HO.out).2.1 HONE.out).mono ?_; rintro e w11 ⟨rfl, ⟨nd, rfl⟩⟩; have n4 := zb HBW.out nd; clear HBW; have HBW := za.mk n4; clear n4))
       go_ret
       exact ⟨by rw [HP.out]; rfl, (by repeat (first | (with_reducible first | exact HBW.out | apply zc | apply zb | apply zd) | exact HBW.out))⟩
      | false =>
       have ga9 := za.mk ha9
       have Hwa := za.mk hwa
       have Hwb := za.mk hwb
       have Hoo := za.mk hoo
       have HP : za (prd 8 a b s = false) := ⟨by unfold prd; simp only [Hwa.out, Hwb.out, gb2.out, gb1.out, gb8.out, Hoo.out, ga13.out, ga9.out]; rfl⟩
       go_enter Try.func144, Try.ntmps144
       go_wp2_with (first
        | ((with_reducible refine zw (N := 2) rfl ?_); refine zca ?hg (N := 2) ?hd (cs := #[.int .i64 a, .int .i64 b, .int .i64 s]) (t := 99) ?hr ?_; (case hd => rfl); (case hg => rfl); (case hr => first | (go_simp; done) | (go_simp; rfl)); intro gb hgb w3 hbox hb; have HBOX := za.mk hbox; have x0 : w3.cell? ⟨gb, 0, none⟩ = some (.int .i64 a) := (zf HBOX.out 0).trans rfl; have x1 : w3.cell? ⟨gb, 1, none⟩ = some (.int .i64 b) := (zf HBOX.out 1).trans rfl; have x2 : w3.cell? ⟨gb, 2, none⟩ = some (.int .i64 s) := (zf HBOX.out 2).trans rfl; have n0 := ze hb h0; clear h0; have h0 := n0; have HBW := za.mk hb; clear n0 hgb hbox hb)
        | (go_at_call 134; refine (HW.out _ _).mono ?_; rintro e w9 ⟨rfl, hb⟩; have n0 := ze hb h0; have n1 := ze hb x0; have n2 := ze hb x1; have n3 := ze hb x2; have n4 := zg HBW.out hb; clear h0 x0 x1 x2 HBW; have h0 := n0; have x0 := n1; have x1 := n2; have x2 := n3; have HBW := za.mk n4; clear n0 n1 n2 n3 n4 hb)
        | ((with_reducible refine zw (N := 21) rfl ?_); (try (refine zla (by rfl) ?_; dsimp only)); refine Kd.zwa (Kd.int .i64) _ 3 ?hg (N := 21) ?hd (xs := ([12, 13] : List Int)) (inner := [.int .i64 12, .int .i64 13]) (ok := fun _ => True) (okp := fun _ => True) ?hr ?hp (fun _ hk => hk) trivial (Below.refl _ _) (Nat.le_refl _) (by simp) ?_; (case hd => rfl); (case hg => rfl); (case hr => first | (go_simp; done) | (go_simp; rfl)); (case hp => exact (Reps.one (show Kd.M (Kd.int .i64) _ _ _ 12 [.int .i64 12] from rfl) (Reps.one (show Kd.M (Kd.int .i64) _ _ _ 13 [.int .i64 13] from rfl) (Reps.none _ _)))); intro v289 w10 ho10 hb hg_ hnew_; clear hg_ hnew_; rw [← Ny1.out] at ho10; have HO := za.mk ho10; clear ho10; have n0 := ze hb h0; have n1 := ze hb x0; have n2 := ze hb x1; have n3 := ze hb x2; have n4 := zg HBW.out hb; clear h0 x0 x1 x2 HBW; have h0 := n0; have x0 := n1; have x1 := n2; have x2 := n3; have HBW := za.mk n4; clear n0 n1 n2 n3 n4 hb; obtain ⟨Ao, co, eo⟩ := Kd.zia HO.out; subst eo)
        | (go_at_call 135; refine (impl_oneOf.calls 30 _ _ _ y1 _ _ (Kd.zt HO.out).2.2 (Kd.zt HO.out).2.1 HONE.out).mono ?_; rintro e w11 ⟨rfl, ⟨nd, rfl⟩⟩; have n4 := zb HBW.out nd; clear HBW; have HBW := za.mk n4; clear n4))
       go_ret
       exact ⟨by rw [HP.out]; rfl, (by repeat (first | (with_reducible first | exact HBW.out | apply zc | apply zb | apply zd) | exact HBW.out))⟩
   | false =>
    have gb2 := za.mk hb2
    cases ha13 : (a == 13) with
    | true =>
     have ga13 := za.mk ha13
     have ha9 : (a == 9) = false := by have z := beq_iff_eq.1 ga13.out; rw [z]; rfl
     have ga9 := za.mk ha9
     cases hb1 : (b == 1) with
     | true =>
      have gb1 := za.mk hb1
      have hb8 : (b == 8) = false := by have z := beq_iff_eq.1 gb1.out; rw [z]; rfl
      have gb8 := za.mk hb8
      have Hwa := za.mk hwa
      have Hwb := za.mk hwb
      have HP : za (prd 8 a b s = true) := ⟨by unfold prd; simp only [Hwa.out, Hwb.out, gb2.out, ga13.out, ga9.out, gb1.out, gb8.out]; rfl⟩
      go_enter Try.func144, Try.ntmps144
      go_wp2_with (first
       | ((with_reducible refine zw (N := 2) rfl ?_); refine zca ?hg (N := 2) ?hd (cs := #[.int .i64 a, .int .i64 b, .int .i64 s]) (t := 99) ?hr ?_; (case hd => rfl); (case hg => rfl); (case hr => first | (go_simp; done) | (go_simp; rfl)); intro gb hgb w3 hbox hb; have HBOX := za.mk hbox; have x0 : w3.cell? ⟨gb, 0, none⟩ = some (.int .i64 a) := (zf HBOX.out 0).trans rfl; have x1 : w3.cell? ⟨gb, 1, none⟩ = some (.int .i64 b) := (zf HBOX.out 1).trans rfl; have x2 : w3.cell? ⟨gb, 2, none⟩ = some (.int .i64 s) := (zf HBOX.out 2).trans rfl; have n0 := ze hb h0; clear h0; have h0 := n0; have HBW := za.mk hb; clear n0 hgb hbox hb)
       | (go_at_call 134; refine (HW.out _ _).mono ?_; rintro e w9 ⟨rfl, hb⟩; have n0 := ze hb h0; have n1 := ze hb x0; have n2 := ze hb x1; have n3 := ze hb x2; have n4 := zg HBW.out hb; clear h0 x0 x1 x2 HBW; have h0 := n0; have x0 := n1; have x1 := n2; have x2 := n3; have HBW := za.mk n4; clear n0 n1 n2 n3 n4 hb)
       | ((with_reducible refine zw (N := 21) rfl ?_); (try (refine zla (by rfl) ?_; dsimp only)); refine Kd.zwa (Kd.int .i64) _ 3 ?hg (N := 21) ?hd (xs := ([12, 13] : List Int)) (inner := [.int .i64 12, .int .i64 13]) (ok := fun _ => True) (okp := fun _ => True) ?hr ?hp (fun _ hk => hk) trivial (Below.refl _ _) (Nat.le_refl _) (by simp) ?_; (case hd => rfl); (case hg => rfl); (case hr => first | (go_simp; done) | (go_simp; rfl)); (case hp => exact (Reps.one (show Kd.M (Kd.int .i64) _ _ _ 12 [.int .i64 12] from rfl) (Reps.one (show Kd.M (Kd.int .i64) _ _ _ 13 [.int .i64 13] from rfl) (Reps.none _ _)))); intro v289 w10 ho10 hb hg_ hnew_; clear hg_ hnew_; rw [← Ny1.out] at ho10; have HO := za.mk ho10; clear ho10; have n0 := ze hb h0; have n1 := ze hb x0; have n2 := ze hb x1; have n3 := ze hb x2; have n4 := zg HBW.out hb; clear h0 x0 x1 x2 HBW; have h0 := n0; have x0 := n1; have x1 := n2; have x2 := n3; have HBW := za.mk n4; clear n0 n1 n2 n3 n4 hb; obtain ⟨Ao, co, eo⟩ := Kd.zia HO.out; subst eo)
       | (go_at_call 135; refine (impl_oneOf.calls 30 _ _ _ y1 _ _ (Kd.zt HO.out).2.2 (Kd.zt HO.out).2.1 HONE.out).mono ?_; rintro e w11 ⟨rfl, ⟨nd, rfl⟩⟩; have n4 := zb HBW.out nd; clear HBW; have HBW := za.mk n4; clear n4))
      go_ret
      exact ⟨by rw [HP.out]; rfl, (by repeat (first | (with_reducible first | exact HBW.out | apply zc | apply zb | apply zd) | exact HBW.out))⟩
     | false =>
      have gb1 := za.mk hb1
      cases hb8 : (b == 8) with
      | true =>
       have gb8 := za.mk hb8
       have Hwa := za.mk hwa
       have Hwb := za.mk hwb
       have HP : za (prd 8 a b s = true) := ⟨by unfold prd; simp only [Hwa.out, Hwb.out, gb2.out, ga13.out, ga9.out, gb1.out, gb8.out]; rfl⟩
       go_enter Try.func144, Try.ntmps144
       go_wp2_with (first
        | ((with_reducible refine zw (N := 2) rfl ?_); refine zca ?hg (N := 2) ?hd (cs := #[.int .i64 a, .int .i64 b, .int .i64 s]) (t := 99) ?hr ?_; (case hd => rfl); (case hg => rfl); (case hr => first | (go_simp; done) | (go_simp; rfl)); intro gb hgb w3 hbox hb; have HBOX := za.mk hbox; have x0 : w3.cell? ⟨gb, 0, none⟩ = some (.int .i64 a) := (zf HBOX.out 0).trans rfl; have x1 : w3.cell? ⟨gb, 1, none⟩ = some (.int .i64 b) := (zf HBOX.out 1).trans rfl; have x2 : w3.cell? ⟨gb, 2, none⟩ = some (.int .i64 s) := (zf HBOX.out 2).trans rfl; have n0 := ze hb h0; clear h0; have h0 := n0; have HBW := za.mk hb; clear n0 hgb hbox hb)
        | (go_at_call 134; refine (HW.out _ _).mono ?_; rintro e w9 ⟨rfl, hb⟩; have n0 := ze hb h0; have n1 := ze hb x0; have n2 := ze hb x1; have n3 := ze hb x2; have n4 := zg HBW.out hb; clear h0 x0 x1 x2 HBW; have h0 := n0; have x0 := n1; have x1 := n2; have x2 := n3; have HBW := za.mk n4; clear n0 n1 n2 n3 n4 hb)
        | ((with_reducible refine zw (N := 21) rfl ?_); (try (refine zla (by rfl) ?_; dsimp only)); refine Kd.zwa (Kd.int .i64) _ 3 ?hg (N := 21) ?hd (xs := ([12, 13] : List Int)) (inner := [.int .i64 12, .int .i64 13]) (ok := fun _ => True) (okp := fun _ => True) ?hr ?hp (fun _ hk => hk) trivial (Below.refl _ _) (Nat.le_refl _) (by simp) ?_; (case hd => rfl); (case hg => rfl); (case hr => first | (go_simp; done) | (go_simp; rfl)); (case hp => exact (Reps.one (show Kd.M (Kd.int .i64) _ _ _ 12 [.int .i64 12] from rfl) (Reps.one (show Kd.M (Kd.int .i64) _ _ _ 13 [.int .i64 13] from rfl) (Reps.none _ _)))); intro v289 w10 ho10 hb hg_ hnew_; clear hg_ hnew_; rw [← Ny1.out] at ho10; have HO := za.mk ho10; clear ho10; have n0 := ze hb h0; have n1 := ze hb x0; have n2 := ze hb x1; have n3 := ze hb x2; have n4 := zg HBW.out hb; clear h0 x0 x1 x2 HBW; have h0 := n0; have x0 := n1; have x1 := n2; have x2 := n3; have HBW := za.mk n4; clear n0 n1 n2 n3 n4 hb; obtain ⟨Ao, co, eo⟩ := Kd.zia HO.out; subst eo)
        | (go_at_call 135; refine (impl_oneOf.calls 30 _ _ _ y1 _ _ (Kd.zt HO.out).2.2 (Kd.zt HO.out).2.1 HONE.out).mono ?_; rintro e w11 ⟨rfl, ⟨nd, rfl⟩⟩; have n4 := zb HBW.out nd; clear HBW; have HBW := za.mk n4; clear n4))
       go_ret
       exact ⟨by rw [HP.out]; rfl, (by repeat (first | (with_reducible first | exact HBW.out | apply zc | apply zb | apply zd) | exact HBW.out))⟩
      | false =>
       have gb8 := za.mk hb8
       have Hwa := za.mk hwa
       have Hwb := za.mk hwb
       have HP : za (prd 8 a b s = false) := ⟨by unfold prd; simp only [Hwa.out, Hwb.out, gb2.out, ga13.out, ga9.out, gb1.out, gb8.out]; rfl⟩
       go_enter Try.func144, Try.ntmps144
       go_wp2_with (first
        | ((with_reducible refine zw (N := 2) rfl ?_); refine zca ?hg (N := 2) ?hd (cs := #[.int .i64 a, .int .i64 b, .int .i64 s]) (t := 99) ?hr ?_; (case hd => rfl); (case hg => rfl); (case hr => first | (go_simp; done) | (go_simp; rfl)); intro gb hgb w3 hbox hb; have HBOX := za.mk hbox; have x0 : w3.cell? ⟨gb, 0, none⟩ = some (.int .i64 a) := (zf HBOX.out 0).trans rfl; have x1 : w3.cell? ⟨gb, 1, none⟩ = some (.int .i64 b) := (zf HBOX.out 1).trans rfl; have x2 : w3.cell? ⟨gb, 2, none⟩ = some (.int .i64 s) := (zf HBOX.out 2).trans rfl; have n0 := ze hb h0; clear h0; have h0 := n0; have HBW := za.mk hb; clear n0 hgb hbox hb)
        | (go_at_call 134; refine (HW.out _ _).mono ?_; rintro e w9 ⟨rfl, hb⟩; have n0 := ze hb h0; have n1 := ze hb x0; have n2 := ze hb x1; have n3 := ze hb x2; have n4 := zg HBW.out hb; clear h0 x0 x1 x2 HBW; have h0 := n0; have x0 := n1; have x1 := n2; have x2 := n3; have HBW := za.mk n4; clear n0 n1 n2 n3 n4 hb)
        | ((with_reducible refine zw (N := 21) rfl ?_); (try (refine zla (by rfl) ?_; dsimp only)); refine Kd.zwa (Kd.int .i64) _ 3 ?hg (N := 21) ?hd (xs := ([12, 13] : List Int)) (inner := [.int .i64 12, .int .i64 13]) (ok := fun _ => True) (okp := fun _ => True) ?hr ?hp (fun _ hk => hk) trivial (Below.refl _ _) (Nat.le_refl _) (by simp) ?_; (case hd => rfl); (case hg => rfl); (case hr => first | (go_simp; done) | (go_simp; rfl)); (case hp => exact (Reps.one (show Kd.M (Kd.int .i64) _ _ _ 12 [.int .i64 12] from rfl) (Reps.one (show Kd.M (Kd.int .i64) _ _ _ 13 [.int .i64 13] from rfl) (Reps.none _ _)))); intro v289 w10 ho10 hb hg_ hnew_; clear hg_ hnew_; rw [← Ny1.out] at ho10; have HO := za.mk ho10; clear ho10; have n0 := ze hb h0; have n1 := ze hb x0; have n2 := ze hb x1; have n3 := ze hb x2; have n4 := zg HBW.out hb; clear h0 x0 x1 x2 HBW; have h0 := n0; have x0 := n1; have x1 := n2; have x2 := n3; have HBW := za.mk n4; clear n0 n1 n2 n3 n4 hb; obtain ⟨Ao, co, eo⟩ := Kd.zia HO.out; subst eo)
        | (go_at_call 135; refine (impl_oneOf.calls 30 _ _ _ y1 _ _ (Kd.zt HO.out).2.2 (Kd.zt HO.out).2.1 HONE.out).mono ?_; rintro e w11 ⟨rfl, ⟨nd, rfl⟩⟩; have n4 := zb HBW.out nd; clear HBW; have HBW := za.mk n4; clear n4))
       go_ret
       exact ⟨by rw [HP.out]; rfl, (by repeat (first | (with_reducible first | exact HBW.out | apply zc | apply zb | apply zd) | exact HBW.out))⟩
    | false =>
     have ga13 := za.mk ha13
     cases hb8 : (b == 8) with
     | true =>
      have gb8 := za.mk hb8
      have Hwa := za.mk hwa
      have Hwb := za.mk hwb
      have HP : za (prd 8 a b s = true) := ⟨by unfold prd; simp only [Hwa.out, Hwb.out, gb2.out, ga13.out, gb8.out]; rfl⟩
      go_enter Try.func144, Try.ntmps144
      go_wp2_with (first
       | ((with_reducible refine zw (N := 2) rfl ?_); refine zca ?hg (N := 2) ?hd (cs := #[.int .i64 a, .int .i64 b, .int .i64 s]) (t := 99) ?hr ?_; (case hd => rfl); (case hg => rfl); (case hr => first | (go_simp; done) | (go_simp; rfl)); intro gb hgb w3 hbox hb; have HBOX := za.mk hbox; have x0 : w3.cell? ⟨gb, 0, none⟩ = some (.int .i64 a) := (zf HBOX.out 0).trans rfl; have x1 : w3.cell? ⟨gb, 1, none⟩ = some (.int .i64 b) := (zf HBOX.out 1).trans rfl; have x2 : w3.cell? ⟨gb, 2, none⟩ = some (.int .i64 s) := (zf HBOX.out 2).trans rfl; have n0 := ze hb h0; clear h0; have h0 := n0; have HBW := za.mk hb; clear n0 hgb hbox hb)
       | (go_at_call 134; refine (HW.out _ _).mono ?_; rintro e w9 ⟨rfl, hb⟩; have n0 := ze hb h0; have n1 := ze hb x0; have n2 := ze hb x1; have n3 := ze hb x2; have n4 := zg HBW.out hb; clear h0 x0 x1 x2 HBW; have h0 := n0; have x0 := n1; have x1 := n2; have x2 := n3; have HBW := za.mk n4; clear n0 n1 n2 n3 n4 hb)
       | ((with_reducible refine zw (N := 21) rfl ?_); (try (refine zla (by rfl) ?_; dsimp only)); refine Kd.zwa (Kd.int .i64) _ 3 ?hg (N := 21) ?hd (xs := ([12, 13] : List Int)) (inner := [.int .i64 12, .int .i64 13]) (ok := fun _ => True) (okp := fun _ => True) ?hr ?hp (fun _ hk => hk) trivial (Below.refl _ _) (Nat.le_refl _) (by simp) ?_; (case hd => rfl); (case hg => rfl); (case hr => first | (go_simp; done) | (go_simp; rfl)); (case hp => exact (Reps.one (show Kd.M (Kd.int .i64) _ _ _ 12 [.int .i64 12] from rfl) (Reps.one (show Kd.M (Kd.int .i64) _ _ _ 13 [.int .i64 13] from rfl) (Reps.none _ _)))); intro v289 w10 ho10 hb hg_ hnew_; clear hg_ hnew_; rw [← Ny1.out] at ho10; have HO := za.mk ho10; clear ho10; have n0 := ze hb h0; have n1 := ze hb x0; have n2 := ze hb x1; have n3 := ze hb x2; have n4 := zg HBW.out hb; clear h0 x0 x1 x2 HBW; have h0 := n0; have x0 := n1; have x1 := n2; have x2 := n3; have HBW := za.mk n4; clear n0 n1 n2 n3 n4 hb; obtain ⟨Ao, co, eo⟩ := Kd.zia HO.out; subst eo)
       | (go_at_call 135; refine (impl_oneOf.calls 30 _ _ _ y1 _ _ (Kd.zt HO.out).2.2 (Kd.zt HO.out).2.1 HONE.out).mono ?_; rintro e w11 ⟨rfl, ⟨nd, rfl⟩⟩; have n4 := zb HBW.out nd; clear HBW; have HBW := za.mk n4; clear n4))
      go_ret
      exact ⟨by rw [HP.out]; rfl, (by repeat (first | (with_reducible first | exact HBW.out | apply zc | apply zb | apply zd) | exact HBW.out))⟩
     | false =>
      have gb8 := za.mk hb8
      cases ha9 : (a == 9) with
      | true =>
       have ga9 := za.mk ha9
       have Hwa := za.mk hwa
       have Hwb := za.mk hwb
       have HP : za (prd 8 a b s = false) := ⟨by unfold prd; simp only [Hwa.out, Hwb.out, gb2.out, ga13.out, gb8.out, ga9.out]; rfl⟩
       go_enter Try.func144, Try.ntmps144
       go_wp2_with (first
        | ((with_reducible refine zw (N := 2) rfl ?_); refine zca ?hg (N := 2) ?hd (cs := #[.int .i64 a, .int .i64 b, .int .i64 s]) (t := 99) ?hr ?_; (case hd => rfl); (case hg => rfl); (case hr => first | (go_simp; done) | (go_simp; rfl)); intro gb hgb w3 hbox hb; have HBOX := za.mk hbox; have x0 : w3.cell? ⟨gb, 0, none⟩ = some (.int .i64 a) := (zf HBOX.out 0).trans rfl; have x1 : w3.cell? ⟨gb, 1, none⟩ = some (.int .i64 b) := (zf HBOX.out 1).trans rfl; have x2 : w3.cell? ⟨gb, 2, none⟩ = some (.int .i64 s) := (zf HBOX.out 2).trans rfl; have n0 := ze hb h0; clear h0; have h0 := n0; have HBW := za.mk hb; clear n0 hgb hbox hb)
        | (go_at_call 134; refine (HW.out _ _).mono ?_; rintro e w9 ⟨rfl, hb⟩; have n0 := ze hb h0; have n1 := ze hb x0; have n2 := ze hb x1; have n3 := ze hb x2; have n4 := zg HBW.out hb; clear h0 x0 x1 x2 HBW; have h0 := n0; have x0 := n1; have x1 := n2; have x2 := n3; have HBW := za.mk n4; clear n0 n1 n2 n3 n4 hb)
        | ((with_reducible refine zw (N := 21) rfl ?_); (try (refine zla (by rfl) ?_; dsimp only)); refine Kd.zwa (Kd.int .i64) _ 3 ?hg (N := 21) ?hd (xs := ([12, 13] : List Int)) (inner := [.int .i64 12, .int .i64 13]) (ok := fun _ => True) (okp := fun _ => True) ?hr ?hp (fun _ hk => hk) trivial (Below.refl _ _) (Nat.le_refl _) (by simp) ?_; (case hd => rfl); (case hg => rfl); (case hr => first | (go_simp; done) | (go_simp; rfl)); (case hp => exact (Reps.one (show Kd.M (Kd.int .i64) _ _ _ 12 [.int .i64 12] from rfl) (Reps.one (show Kd.M (Kd.int .i64) _ _ _ 13 [.int .i64 13] from rfl) (Reps.none _ _)))); intro v289 w10 ho10 hb hg_ hnew_; clear hg_ hnew_; rw [← Ny1.out] at ho10; have HO := za.mk ho10; clear ho10; have n0 := ze hb h0; have n1 := ze hb x0; have n2 := ze hb x1; have n3 := ze hb x2; have n4 := zg HBW.out hb; clear h0 x0 x1 x2 HBW; have h0 := n0; have x0 := n1; have x1 := n2; have x2 := n3; have HBW := za.mk n4; clear n0 n1 n2 n3 n4 hb; obtain ⟨Ao, co, eo⟩ := Kd.zia HO.out; subst eo)
        | (go_at_call 135; refine (impl_oneOf.calls 30 _ _ _ y1 _ _ (Kd.zt HO.out).2.2 (Kd.zt HO.out).2.1 HONE.out).mono ?_; rintro e w11 ⟨rfl, ⟨nd, rfl⟩⟩; have n4 := zb HBW.out nd; clear HBW; have HBW := za.mk n4; clear n4))
       go_ret
       exact ⟨by rw [HP.out]; rfl, (by repeat (first | (with_reducible first | exact HBW.out | apply zc | apply zb | apply zd) | exact HBW.out))⟩
      | false =>
       have ga9 := za.mk ha9
       have Hwa := za.mk hwa
       have Hwb := za.mk hwb
       have HP : za (prd 8 a b s = false) := ⟨by unfold prd; simp only [Hwa.out, Hwb.out, gb2.out, ga13.out, gb8.out, ga9.out]; rfl⟩
       go_enter Try.func144, Try.ntmps144
       go_wp2_with (first
        | ((with_reducible refine zw (N := 2) rfl ?_); refine zca ?hg (N := 2) ?hd (cs := #[.int .i64 a, .int .i64 b, .int .i64 s]) (t := 99) ?hr ?_; (case hd => rfl); (case hg => rfl); (case hr => first | (go_simp; done) | (go_simp; rfl)); intro gb hgb w3 hbox hb; have HBOX := za.mk hbox; have x0 : w3.cell? ⟨gb, 0, none⟩ = some (.int .i64 a) := (zf HBOX.out 0).trans rfl; have x1 : w3.cell? ⟨gb, 1, none⟩ = some (.int .i64 b) := (zf HBOX.out 1).trans rfl; have x2 : w3.cell? ⟨gb, 2, none⟩ = some (.int .i64 s) := (zf HBOX.out 2).trans rfl; have n0 := ze hb h0; clear h0; have h0 := n0; have HBW := za.mk hb; clear n0 hgb hbox hb)
        | (go_at_call 134; refine (HW.out _ _).mono ?_; rintro e w9 ⟨rfl, hb⟩; have n0 := ze hb h0; have n1 := ze hb x0; have n2 := ze hb x1; have n3 := ze hb x2; have n4 := zg HBW.out hb; clear h0 x0 x1 x2 HBW; have h0 := n0; have x0 := n1; have x1 := n2; have x2 := n3; have HBW := za.mk n4; clear n0 n1 n2 n3 n4 hb)
        | ((with_reducible refine zw (N := 21) rfl ?_); (try (refine zla (by rfl) ?_; dsimp only)); refine Kd.zwa (Kd.int .i64) _ 3 ?hg (N := 21) ?hd (xs := ([12, 13] : List Int)) (inner := [.int .i64 12, .int .i64 13]) (ok := fun _ => True) (okp := fun _ => True) ?hr ?hp (fun _ hk => hk) trivial (Below.refl _ _) (Nat.le_refl _) (by simp) ?_; (case hd => rfl); (case hg => rfl); (case hr => first | (go_simp; done) | (go_simp; rfl)); (case hp => exact (Reps.one (show Kd.M (Kd.int .i64) _ _ _ 12 [.int .i64 12] from rfl) (Reps.one (show Kd.M (Kd.int .i64) _ _ _ 13 [.int .i64 13] from rfl) (Reps.none _ _)))); intro v289 w10 ho10 hb hg_ hnew_; clear hg_ hnew_; rw [← Ny1.out] at ho10; have HO := za.mk ho10; clear ho10; have n0 := ze hb h0; have n1 := ze hb x0; have n2 := ze hb x1; have n3 := ze hb x2; have n4 := zg HBW.out hb; clear h0 x0 x1 x2 HBW; have h0 := n0; have x0 := n1; have x1 := n2; have x2 := n3; have HBW := za.mk n4; clear n0 n1 n2 n3 n4 hb; obtain ⟨Ao, co, eo⟩ := Kd.zia HO.out; subst eo)
        | (go_at_call 135; refine (impl_oneOf.calls 30 _ _ _ y1 _ _ (Kd.zt HO.out).2.2 (Kd.zt HO.out).2.1 HONE.out).mono ?_; rintro e w11 ⟨rfl, ⟨nd, rfl⟩⟩; have n4 := zb HBW.out nd; clear HBW; have HBW := za.mk n4; clear n4))
       go_ret
       exact ⟨by rw [HP.out]; rfl, (by repeat (first | (with_reducible first | exact HBW.out | apply zc | apply zb | apply zd) | exact HBW.out))⟩
 | false =>
  cases hb2 : (b == 2) with
  | true =>
   have gb2 := za.mk hb2
   have hb1 : (b == 1) = false := by have z := beq_iff_eq.1 gb2.out; rw [z]; rfl
   have gb1 := za.mk hb1
   have hb8 : (b == 8) = false := by have z := beq_iff_eq.1 gb2.out; rw [z]; rfl
   have gb8 := za.mk hb8
   cases hoo : oneB a [12, 13] with
   | true =>
    have Hwa := za.mk hwa
    have Hoo := za.mk hoo
    have HP : za (prd 8 a b s = true) := ⟨by unfold prd; simp only [Hwa.out, gb2.out, gb1.out, gb8.out, Hoo.out]; rfl⟩
    go_enter Try.func144, Try.ntmps144
    go_wp2_with (first
     | ((with_reducible refine zw (N := 2) rfl ?_); refine zca ?hg (N := 2) ?hd (cs := #[.int .i64 a, .int .i64 b, .int .i64 s]) (t := 99) ?hr ?_; (case hd => rfl); (case hg => rfl); (case hr => first | (go_simp; done) | (go_simp; rfl)); intro gb hgb w3 hbox hb; have HBOX := za.mk hbox; have x0 : w3.cell? ⟨gb, 0, none⟩ = some (.int .i64 a) := (zf HBOX.out 0).trans rfl; have x1 : w3.cell? ⟨gb, 1, none⟩ = some (.int .i64 b) := (zf HBOX.out 1).trans rfl; have x2 : w3.cell? ⟨gb, 2, none⟩ = some (.int .i64 s) := (zf HBOX.out 2).trans rfl; have n0 := ze hb h0; clear h0; have h0 := n0; have HBW := za.mk hb; clear n0 hgb hbox hb)
     | (go_at_call 134; refine (HW.out _ _).mono ?_; rintro e w9 ⟨rfl, hb⟩; have n0 := ze hb h0; have n1 := ze hb x0; have n2 := ze hb x1; have n3 := ze hb x2; have n4 := zg HBW.out hb; clear h0 x0 x1 x2 HBW; have h0 := n0; have x0 := n1; have x1 := n2; have x2 := n3; have HBW := za.mk n4; clear n0 n1 n2 n3 n4 hb)
     | ((with_reducible refine zw (N := 21) rfl ?_); (try (refine zla (by rfl) ?_; dsimp only)); refine Kd.zwa (Kd.int .i64) _ 3 ?hg (N := 21) ?hd (xs := ([12, 13] : List Int)) (inner := [.int .i64 12, .int .i64 13]) (ok := fun _ => True) (okp := fun _ => True) ?hr ?hp (fun _ hk => hk) trivial (Below.refl _ _) (Nat.le_refl _) (by simp) ?_; (case hd => rfl); (case hg => rfl); (case hr => first | (go_simp; done) | (go_simp; rfl)); (case hp => exact (Reps.one (show Kd.M (Kd.int .i64) _ _ _ 12 [.int .i64 12] from rfl) (Reps.one (show Kd.M (Kd.int .i64) _ _ _ 13 [.int .i64 13] from rfl) (Reps.none _ _)))); intro v289 w10 ho10 hb hg_ hnew_; clear hg_ hnew_; rw [← Ny1.out] at ho10; have HO := za.mk ho10; clear ho10; have n0 := ze hb h0; have n1 := ze hb x0; have n2 := ze hb x1; have n3 := ze hb x2; have n4 := zg HBW.out hb; clear h0 x0 x1 x2 HBW; have h0 := n0; have x0 := n1; have x1 := n2; have x2 := n3; have HBW := za.mk n4; clear n0 n1 n2 n3 n4 hb; obtain ⟨Ao, co, eo⟩ := Kd.zia HO.out; subst eo)
     | (go_at_call 135; refine (impl_oneOf.calls 30 _ _ _ y1 _ _ (Kd.zt HO.out).2.2 (Kd.zt HO.out).2.1 HONE.out).mono ?_; rintro e w11 ⟨rfl, ⟨nd, rfl⟩⟩; have n4 := zb HBW.out nd; clear HBW; have HBW := za.mk n4; clear n4))
    go_ret
    exact ⟨by rw [HP.out]; rfl, (by repeat (first | (with_reducible first | exact HBW.out | apply zc | apply zb | apply zd) | exact HBW.out))⟩
   | false =>
    cases ha13 : (a == 13) with
    | true =>
     have ga13 := za.mk ha13
     have ha9 : (a == 9) = false := by have z := beq_iff_eq.1 ga13.out; rw [z]; rfl
     have ga9 := za.mk ha9
     have Hwa := za.mk hwa
     have Hoo := za.mk hoo
     have HP : za (prd 8 a b s = false) := ⟨by unfold prd; simp only [Hwa.out, gb2.out, gb1.out, gb8.out, Hoo.out, ga13.out, ga9.out]; rfl⟩
     go_enter Try.func144, Try.ntmps144
     go_wp2_with (first
      | ((with_reducible refine zw (N := 2) rfl ?_); refine zca ?hg (N := 2) ?hd (cs := #[.int .i64 a, .int .i64 b, .int .i64 s]) (t := 99) ?hr ?_; (case hd => rfl); (case hg => rfl); (case hr => first | (go_simp; done) | (go_simp; rfl)); intro gb hgb w3 hbox hb; have HBOX := za.mk hbox; have x0 : w3.cell? ⟨gb, 0, none⟩ = some (.int .i64 a) := (zf HBOX.out 0).trans rfl; have x1 : w3.cell? ⟨gb, 1, none⟩ = some (.int .i64 b) := (zf HBOX.out 1).trans rfl; have x2 : w3.cell? ⟨gb, 2, none⟩ = some (.int .i64 s) := (zf HBOX.out 2).trans rfl; have n0 := ze hb h0; clear h0; have h0 := n0; have HBW := za.mk hb; clear n0 hgb hbox hb)
      | (go_at_call 134; refine (HW.out _ _).mono ?_; rintro e w9 ⟨rfl, hb⟩; have n0 := ze hb h0; have n1 := ze hb x0; have n2 := ze hb x1; have n3 := ze hb x2; have n4 := zg HBW.out hb; clear h0 x0 x1 x2 HBW; have h0 := n0; have x0 := n1; have x1 := n2; have x2 := n3; have HBW := za.mk n4; clear n0 n1 n2 n3 n4 hb)
      | ((with_reducible refine zw (N := 21) rfl ?_); (try (refine zla (by rfl) ?_; dsimp only)); refine Kd.zwa (Kd.int .i64) _ 3 ?hg (N := 21) ?hd (xs := ([12, 13] : List Int)) (inner := [.int .i64 12, .int .i64 13]) (ok := fun _ => True) (okp := fun _ => True) ?hr ?hp (fun _ hk => hk) trivial (Below.refl _ _) (Nat.le_refl _) (by simp) ?_; (case hd => rfl); (case hg => rfl); (case hr => first | (go_simp; done) | (go_simp; rfl)); (case hp => exact (Reps.one (show Kd.M (Kd.int .i64) _ _ _ 12 [.int .i64 12] from rfl) (Reps.one (show Kd.M (Kd.int .i64) _ _ _ 13 [.int .i64 13] from rfl) (Reps.none _ _)))); intro v289 w10 ho10 hb hg_ hnew_; clear hg_ hnew_; rw [← Ny1.out] at ho10; have HO := za.mk ho10; clear ho10; have n0 := ze hb h0; have n1 := ze hb x0; have n2 := ze hb x1; have n3 := ze hb x2; have n4 := zg HBW.out hb; clear h0 x0 x1 x2 HBW; have h0 := n0; have x0 := n1; have x1 := n2; have x2 := n3; have HBW := za.mk n4; clear n0 n1 n2 n3 n4 hb; obtain ⟨Ao, co, eo⟩ := Kd.zia HO.out; subst eo)
      | (go_at_call 135; refine (impl_oneOf.calls 30 _ _ _ y1 _ _ (Kd.zt HO.out).2.2 (Kd.zt HO.out).2.1 HONE.out).mono ?_; rintro e w11 ⟨rfl, ⟨nd, rfl⟩⟩; have n4 := zb HBW.out nd; clear HBW; have HBW := za.mk n4; clear n4))
     go_ret
     exact ⟨by rw [HP.out]; rfl, (by repeat (first | (with_reducible first | exact HBW.out | apply zc | apply zb | apply zd) | exact HBW.out))⟩
    | false =>
     have ga13 := za.mk ha13
     cases ha9 : (a == 9) with
     | true =>
      have ga9 := za.mk ha9
      cases hwb : wordB b with
      | true =>
       have Hwa := za.mk hwa
       have Hoo := za.mk hoo
       have Hwb := za.mk hwb
       have HP : za (prd 8 a b s = true) := ⟨by unfold prd; simp only [Hwa.out, gb2.out, gb1.out, gb8.out, Hoo.out, ga13.out, ga9.out, Hwb.out]; rfl⟩
       go_enter Try.func144, Try.ntmps144
       go_wp2_with (first
        | ((with_reducible refine zw (N := 2) rfl ?_); refine zca ?hg (N := 2) ?hd (cs := #[.int .i64 a, .int .i64 b, .int .i64 s]) (t := 99) ?hr ?_; (case hd => rfl); (case hg => rfl); (case hr => first | (go_simp; done) | (go_simp; rfl)); intro gb hgb w3 hbox hb; have HBOX := za.mk hbox; have x0 : w3.cell? ⟨gb, 0, none⟩ = some (.int .i64 a) := (zf HBOX.out 0).trans rfl; have x1 : w3.cell? ⟨gb, 1, none⟩ = some (.int .i64 b) := (zf HBOX.out 1).trans rfl; have x2 : w3.cell? ⟨gb, 2, none⟩ = some (.int .i64 s) := (zf HBOX.out 2).trans rfl; have n0 := ze hb h0; clear h0; have h0 := n0; have HBW := za.mk hb; clear n0 hgb hbox hb)
        | (go_at_call 134; refine (HW.out _ _).mono ?_; rintro e w9 ⟨rfl, hb⟩; have n0 := ze hb h0; have n1 := ze hb x0; have n2 := ze hb x1; have n3 := ze hb x2; have n4 := zg HBW.out hb; clear h0 x0 x1 x2 HBW; have h0 := n0; have x0 := n1; have x1 := n2; have x2 := n3; have HBW := za.mk n4; clear n0 n1 n2 n3 n4 hb)
        | ((with_reducible refine zw (N := 21) rfl ?_); (try (refine zla (by rfl) ?_; dsimp only)); refine Kd.zwa (Kd.int .i64) _ 3 ?hg (N := 21) ?hd (xs := ([12, 13] : List Int)) (inner := [.int .i64 12, .int .i64 13]) (ok := fun _ => True) (okp := fun _ => True) ?hr ?hp (fun _ hk => hk) trivial (Below.refl _ _) (Nat.le_refl _) (by simp) ?_; (case hd => rfl); (case hg => rfl); (case hr => first | (go_simp; done) | (go_simp; rfl)); (case hp => exact (Reps.one (show Kd.M (Kd.int .i64) _ _ _ 12 [.int .i64 12] from rfl) (Reps.one (show Kd.M (Kd.int .i64) _ _ _ 13 [.int .i64 13] from rfl) (Reps.none _ _)))); intro v289 w10 ho10 hb hg_ hnew_; clear hg_ hnew_; rw [← Ny1.out] at ho10; have HO := za.mk ho10; clear ho10; have n0 := ze hb h0; have n1 := ze hb x0; have n2 := ze hb x1; have n3 := ze hb x2; have n4 := zg HBW.out hb; clear h0 x0 x1 x2 HBW; have h0 := n0; have x0 := n1; have x1 := n2; have x2 := n3; have HBW := za.mk n4; clear n0 n1 n2 n3 n4 hb; obtain ⟨Ao, co, eo⟩ := Kd.zia HO.out; subst eo)
        | (go_at_call 135; refine (impl_oneOf.calls 30 _ _ _ y1 _ _ (Kd.zt HO.out).2.2 (Kd.zt HO.out).2.1 HONE.out).mono ?_; rintro e w11 ⟨rfl, ⟨nd, rfl⟩⟩; have n4 := zb HBW.out nd; clear HBW; have HBW := za.mk n4; clear n4))
       go_ret
       exact ⟨by rw [HP.out]; rfl, (by repeat (first | (with_reducible first | exact HBW.out | apply zc | apply zb | apply zd) | exact HBW.out))⟩
      | false =>
       have Hwa := za.mk hwa
       have Hoo := za.mk hoo
       have Hwb := za.mk hwb
       have HP : za (prd 8 a b s = false) := ⟨by unfold prd; simp only [Hwa.out, gb2.out, gb1.out, gb8.out, Hoo.out, ga13.out, ga9.out, Hwb.out]; rfl⟩
       go_enter Try.func144, Try.ntmps144
       go_wp2_with (first
        | ((with_reducible refine zw (N := 2) rfl ?_); refine zca ?hg (N := 2) ?hd (cs := #[.int .i64 a, .int .i64 b, .int .i64 s]) (t := 99) ?hr ?_; (case hd => rfl); (case hg => rfl); (case hr => first | (go_simp; done) | (go_simp; rfl)); intro gb hgb w3 hbox hb; have HBOX := za.mk hbox; have x0 : w3.cell? ⟨gb, 0, none⟩ = some (.int .i64 a) := (zf HBOX.out 0).trans rfl; have x1 : w3.cell? ⟨gb, 1, none⟩ = some (.int .i64 b) := (zf HBOX.out 1).trans rfl; have x2 : w3.cell? ⟨gb, 2, none⟩ = some (.int .i64 s) := (zf HBOX.out 2).trans rfl; have n0 := ze hb h0; clear h0; have h0 := n0; have HBW := za.mk hb; clear n0 hgb hbox hb)
        | (go_at_call 134; refine (HW.out _ _).mono ?_; rintro e w9 ⟨rfl, hb⟩; have n0 := ze hb h0; have n1 := ze hb x0; have n2 := ze hb x1; have n3 := ze hb x2; have n4 := zg HBW.out hb; clear h0 x0 x1 x2 HBW; have h0 := n0; have x0 := n1; have x1 := n2; have x2 := n3; have HBW := za.mk n4; clear n0 n1 n2 n3 n4 hb)
        | ((with_reducible refine zw (N := 21) rfl ?_); (try (refine zla (by rfl) ?_; dsimp only)); refine Kd.zwa (Kd.int .i64) _ 3 ?hg (N := 21) ?hd (xs := ([12, 13] : List Int)) (inner := [.int .i64 12, .int .i64 13]) (ok := fun _ => True) (okp := fun _ => True) ?hr ?hp (fun _ hk => hk) trivial (Below.refl _ _) (Nat.le_refl _) (by simp) ?_; (case hd => rfl); (case hg => rfl); (case hr => first | (go_simp; done) | (go_simp; rfl)); (case hp => exact (Reps.one (show Kd.M (Kd.int .i64) _ _ _ 12 [.int .i64 12] from rfl) (Reps.one (show Kd.M (Kd.int .i64) _ _ _ 13 [.int .i64 13] from rfl) (Reps.none _ _)))); intro v289 w10 ho10 hb hg_ hnew_; clear hg_ hnew_; rw [← Ny1.out] at ho10; have HO := za.mk ho10; clear ho10; have n0 := ze hb h0; have n1 := ze hb x0; have n2 := ze hb x1; have n3 := ze hb x2; have n4 := zg HBW.out hb; clear h0 x0 x1 x2 HBW; have h0 := n0; have x0 := n1; have x1 := n2; have x2 := n3; have HBW := za.mk n4; clear n0 n1 n2 n3 n4 hb; obtain ⟨Ao, co, eo⟩ := Kd.zia HO.out; subst eo)
        | (go_at_call 135; refine (impl_oneOf.calls 30 _ _ _ y1 _ _ (Kd.zt HO.out).2.2 (Kd.zt HO.out).2.1 HONE.out).mono ?_; rintro e w11 ⟨rfl, ⟨nd, rfl⟩⟩; have n4 := zb HBW.out nd; clear HBW; have HBW := za.mk n4; clear n4))
       go_ret
       exact ⟨by rw [HP.out]; rfl, (by repeat (first | (with_reducible first | exact HBW.out | apply zc | apply zb | apply zd) | exact HBW.out))⟩
     | false =>
      have ga9 := za.mk ha9
      have Hwa := za.mk hwa
      have Hoo := za.mk hoo
      have HP : za (prd 8 a b s = false) := ⟨by unfold prd; simp only [Hwa.out, gb2.out, gb1.out, gb8.out, Hoo.out, ga13.out, ga9.out]; rfl⟩
      go_enter Try.func144, Try.ntmps144
      go_wp2_with (first
       | ((with_reducible refine zw (N := 2) rfl ?_); refine zca ?hg (N := 2) ?hd (cs := #[.int .i64 a, .int .i64 b, .int .i64 s]) (t := 99) ?hr ?_; (case hd => rfl); (case hg => rfl); (case hr => first | (go_simp; done) | (go_simp; rfl)); intro gb hgb w3 hbox hb; have HBOX := za.mk hbox; have x0 : w3.cell? ⟨gb, 0, none⟩ = some (.int .i64 a) := (zf HBOX.out 0).trans rfl; have x1 : w3.cell? ⟨gb, 1, none⟩ = some (.int .i64 b) := (zf HBOX.out 1).trans rfl; have x2 : w3.cell? ⟨gb, 2, none⟩ = some (.int .i64 s) := (zf HBOX.out 2).trans rfl; have n0 := ze hb h0; clear h0; have h0 := n0; have HBW := za.mk hb; clear n0 hgb hbox hb)
       | (go_at_call 134; refine (HW.out _ _).mono ?_; rintro e w9 ⟨rfl, hb⟩; have n0 := ze hb h0; have n1 := ze hb x0; have n2 := ze hb x1; have n3 := ze hb x2; have n4 := zg HBW.out hb; clear h0 x0 x1 x2 HBW; have h0 := n0; have x0 := n1; have x1 := n2; have x2 := n3; have HBW := za.mk n4; clear n0 n1 n2 n3 n4 hb)
       | ((with_reducible refine zw (N := 21) rfl ?_); (try (refine zla (by rfl) ?_; dsimp only)); refine Kd.zwa (Kd.int .i64) _ 3 ?hg (N := 21) ?hd (xs := ([12, 13] : List Int)) (inner := [.int .i64 12, .int .i64 13]) (ok := fun _ => True) (okp := fun _ => True) ?hr ?hp (fun _ hk => hk) trivial (Below.refl _ _) (Nat.le_refl _) (by simp) ?_; (case hd => rfl); (case hg => rfl); (case hr => first | (go_simp; done) | (go_simp; rfl)); (case hp => exact (Reps.one (show Kd.M (Kd.int .i64) _ _ _ 12 [.int .i64 12] from rfl) (Reps.one (show Kd.M (Kd.int .i64) _ _ _ 13 [.int .i64 13] from rfl) (Reps.none _ _)))); intro v289 w10 ho10 hb hg_ hnew_; clear hg_ hnew_; rw [← Ny1.out] at ho10; have HO := za.mk ho10; clear ho10; have n0 := ze hb h0; have n1 := ze hb x0; have n2 := ze hb x1; have n3 := ze hb x2; have n4 := zg HBW.out hb; clear h0 x0 x1 x2 HBW; have h0 := n0; have x0 := n1; have x1 := n2; have x2 := n3; have HBW := za.mk n4; clear n0 n1 n2 n3 n4 hb; obtain ⟨Ao, co, eo⟩ := Kd.zia HO.out; subst eo)
       | (go_at_call 135; refine (impl_oneOf.calls 30 _ _ _ y1 _ _ (Kd.zt HO.out).2.2 (Kd.zt HO.out).2.1 HONE.out).mono ?_; rintro e w11 ⟨rfl, ⟨nd, rfl⟩⟩; have n4 := zb HBW.out nd; clear HBW; have HBW := za.mk n4; clear n4))
      go_ret
      exact ⟨by rw [HP.out]; rfl, (by repeat (first | (with_reducible first | exact HBW.out | apply zc | apply zb | apply zd) | exact HBW.out))⟩
  | false =>
   have gb2 := za.mk hb2
   cases ha13 : (a == 13) with
   | true =>
    have ga13 := za.mk ha13
    have ha9 : (a == 9) = false := by have z := beq_iff_eq.1 ga13.out; rw [z]; rfl
    have ga9 := za.mk ha9
    cases hb1 : (b == 1) with
    | true =>
     have gb1 := za.mk hb1
     have hb8 : (b == 8) = false := by have z := beq_iff_eq.1 gb1.out; rw [z]; rfl
     have gb8 := za.mk hb8
     have Hwa := za.mk hwa
     have HP : za (prd 8 a b s = true) := ⟨by unfold prd; simp only [Hwa.out, gb2.out, ga13.out, ga9.out, gb1.out, gb8.out]; rfl⟩
     go_enter Try.func144, Try.ntmps144
     go_wp2_with (first
      | ((with_reducible refine zw (N := 2) rfl ?_); refine zca ?hg (N := 2) ?hd (cs := #[.int .i64 a, .int .i64 b, .int .i64 s]) (t := 99) ?hr ?_; (case hd => rfl); (case hg => rfl); (case hr => first | (go_simp; done) | (go_simp; rfl)); intro gb hgb w3 hbox hb; have HBOX := za.mk hbox; have x0 : w3.cell? ⟨gb, 0, none⟩ = some (.int .i64 a) := (zf HBOX.out 0).trans rfl; have x1 : w3.cell? ⟨gb, 1, none⟩ = some (.int .i64 b) := (zf HBOX.out 1).trans rfl; have x2 : w3.cell? ⟨gb, 2, none⟩ = some (.int .i64 s) := (zf HBOX.out 2).trans rfl; have n0 := ze hb h0; clear h0; have h0 := n0; have HBW := za.mk hb; clear n0 hgb hbox hb)
      | (go_at_call 134; refine (HW.out _ _).mono ?_; rintro e w9 ⟨rfl, hb⟩; have n0 := ze hb h0; have n1 := ze hb x0; have n2 := ze hb x1; have n3 := ze hb x2; have n4 := zg HBW.out hb; clear h0 x0 x1 x2 HBW; have h0 := n0; have x0 := n1; have x1 := n2; have x2 := n3; have HBW := za.mk n4; clear n0 n1 n2 n3 n4 hb)
      | ((with_reducible refine zw (N := 21) rfl ?_); (try (refine zla (by rfl) ?_; dsimp only)); refine Kd.zwa (Kd.int .i64) _ 3 ?hg (N := 21) ?hd (xs := ([12, 13] : List Int)) (inner := [.int .i64 12, .int .i64 13]) (ok := fun _ => True) (okp := fun _ => True) ?hr ?hp (fun _ hk => hk) trivial (Below.refl _ _) (Nat.le_refl _) (by simp) ?_; (case hd => rfl); (case hg => rfl); (case hr => first | (go_simp; done) | (go_simp; rfl)); (case hp => exact (Reps.one (show Kd.M (Kd.int .i64) _ _ _ 12 [.int .i64 12] from rfl) (Reps.one (show Kd.M (Kd.int .i64) _ _ _ 13 [.int .i64 13] from rfl) (Reps.none _ _)))); intro v289 w10 ho10 hb hg_ hnew_; clear hg_ hnew_; rw [← Ny1.out] at ho10; have HO := za.mk ho10; clear ho10; have n0 := ze hb h0; have n1 := ze hb x0; have n2 := ze hb x1; have n3 := ze hb x2; have n4 := zg HBW.out hb; clear h0 x0 x1 x2 HBW; have h0 := n0; have x0 := n1; have x1 := n2; have x2 := n3; have HBW := za.mk n4; clear n0 n1 n2 n3 n4 hb; obtain ⟨Ao, co, eo⟩ := Kd.zia HO.out; subst eo)
      | (go_at_call 135; refine (impl_oneOf.calls 30 _ _ _ y1 _ _ (Kd.zt HO.out).2.2 (Kd.zt HO.out).2.1 HONE.out).mono ?_; rintro e w11 ⟨rfl, ⟨nd, rfl⟩⟩; have n4 := zb HBW.out nd; clear HBW; have HBW := za.mk n4; clear n4))
     go_ret
     exact ⟨by rw [HP.out]; rfl, (by repeat (first | (with_reducible first | exact HBW.out | apply zc | apply zb | apply zd) | exact HBW.out))⟩
    | false =>
     have gb1 := za.mk hb1
     have Hwa := za.mk hwa
     have HP : za (prd 8 a b s = false) := ⟨by unfold prd; simp only [Hwa.out, gb2.out, ga13.out, ga9.out, gb1.out]; rfl⟩
     go_enter Try.func144, Try.ntmps144
     go_wp2_with (first
      | ((with_reducible refine zw (N := 2) rfl ?_); refine zca ?hg (N := 2) ?hd (cs := #[.int .i64 a, .int .i64 b, .int .i64 s]) (t := 99) ?hr ?_; (case hd => rfl); (case hg => rfl); (case hr => first | (go_simp; done) | (go_simp; rfl)); intro gb hgb w3 hbox hb; have HBOX := za.mk hbox; have x0 : w3.cell? ⟨gb, 0, none⟩ = some (.int .i64 a) := (zf HBOX.out 0).trans rfl; have x1 : w3.cell? ⟨gb, 1, none⟩ = some (.int .i64 b) := (zf HBOX.out 1).trans rfl; have x2 : w3.cell? ⟨gb, 2, none⟩ = some (.int .i64 s) := (zf HBOX.out 2).trans rfl; have n0 := ze hb h0; clear h0; have h0 := n0; have HBW := za.mk hb; clear n0 hgb hbox hb)
      | (go_at_call 134; refine (HW.out _ _).mono ?_; rintro e w9 ⟨rfl, hb⟩; have n0 := ze hb h0; have n1 := ze hb x0; have n2 := ze hb x1; have n3 := ze hb x2; have n4 := zg HBW.out hb; clear h0 x0 x1 x2 HBW; have h0 := n0; have x0 := n1; have x1 := n2; have x2 := n3; have HBW := za.mk n4; clear n0 n1 n2 n3 n4 hb)
      | ((with_reducible refine zw (N := 21) rfl ?_); (try (refine zla (by rfl) ?_; dsimp only)); refine Kd.zwa (Kd.int .i64) _ 3 ?hg (N := 21) ?hd (xs := ([12, 13] : List Int)) (inner := [.int .i64 12, .int .i64 13]) (ok := fun _ => True) (okp := fun _ => True) ?hr ?hp (fun _ hk => hk) trivial (Below.refl _ _) (Nat.le_refl _) (by simp) ?_; (case hd => rfl); (case hg => rfl); (case hr => first | (go_simp; done) | (go_simp; rfl)); (case hp => exact (Reps.one (show Kd.M (Kd.int .i64) _ _ _ 12 [.int .i64 12] from rfl) (Reps.one (show Kd.M (Kd.int .i64) _ _ _ 13 [.int .i64 13] from rfl) (Reps.none _ _)))); intro v289 w10 ho10 hb hg_ hnew_; clear hg_ hnew_; rw [← Ny1.out] at ho10; have HO := za.mk ho10; clear ho10; have n0 := ze hb h0; have n1 := ze hb x0; have n2 := ze hb x1; have n3 := ze hb x2; have n4 := zg HBW.out hb; clear h0 x0 x1 x2 HBW; have h0 := n0; have x0 := n1; have x1 := n2; have x2 := n3; have HBW := za.mk n4; clear n0 n1 n2 n3 n4 hb; obtain ⟨Ao, co, eo⟩ := Kd.zia HO.out; subst eo)
      | (go_at_call 135; refine (impl_oneOf.calls 30 _ _ _ y1 _ _ (Kd.zt HO.out).2.2 (Kd.zt HO.out).2.1 HONE.out).mono ?_; rintro e w11 ⟨rfl, ⟨nd, rfl⟩⟩; have n4 := zb HBW.out nd; clear HBW; have HBW := za.mk n4; clear n4))
     go_ret
     exact ⟨by rw [HP.out]; rfl, (by repeat (first | (with_reducible first | exact HBW.out | apply zc | apply zb | apply zd) | exact HBW.out))⟩
   | false =>
    have ga13 := za.mk ha13
    cases ha9 : (a == 9) with
    | true =>
     have ga9 := za.mk ha9
     cases hwb : wordB b with
     | true =>
      have Hwa := za.mk hwa
      have Hwb := za.mk hwb
      have HP : za (prd 8 a b s = true) := ⟨by unfold prd; simp only [Hwa.out, gb2.out, ga13.out, ga9.out, Hwb.out]; rfl⟩
      go_enter Try.func144, Try.ntmps144
      go_wp2_with (first
       | ((with_reducible refine zw (N := 2) rfl ?_); refine zca ?hg (N := 2) ?hd (cs := #[.int .i64 a, .int .i64 b, .int .i64 s]) (t := 99) ?hr ?_; (case hd => rfl); (case hg => rfl); (case hr => first | (go_simp; done) | (go_simp; rfl)); intro gb hgb w3 hbox hb; have HBOX := za.mk hbox; have x0 : w3.cell? ⟨gb, 0, none⟩ = some (.int .i64 a) := (zf HBOX.out 0).trans rfl; have x1 : w3.cell? ⟨gb, 1, none⟩ = some (.int .i64 b) := (zf HBOX.out 1).trans rfl; have x2 : w3.cell? ⟨gb, 2, none⟩ = some (.int .i64 s) := (zf HBOX.out 2).trans rfl; have n0 := ze hb h0; clear h0; have h0 := n0; have HBW := za.mk hb; clear n0 hgb hbox hb)
       | (go_at_call 134; refine (HW.out _ _).mono ?_; rintro e w9 ⟨rfl, hb⟩; have n0 := ze hb h0; have n1 := ze hb x0; have n2 := ze hb x1; have n3 := ze hb x2; have n4 := zg HBW.out hb; clear h0 x0 x1 x2 HBW; have h0 := n0; have x0 := n1; have x1 := n2; have x2 := n3; have HBW := za.mk n4; clear n0 n1 n2 n3 n4 hb)
       | ((with_reducible refine zw (N := 21) rfl ?_); (try (refine zla (by rfl) ?_; dsimp only)); refine Kd.zwa (Kd.int .i64) _ 3 ?hg (N := 21) ?hd (xs := ([12, 13] : List Int)) (inner := [.int .i64 12, .int .i64 13]) (ok := fun _ => True) (okp := fun _ => True) ?hr ?hp (fun _ hk => hk) trivial (Below.refl _ _) (Nat.le_refl _) (by simp) ?_; (case hd => rfl); (case hg => rfl); (case hr => first | (go_simp; done) | (go_simp; rfl)); (case hp => exact (Reps.one (show Kd.M (Kd.int .i64) _ _ _ 12 [.int .i64 12] from rfl) (Reps.one (show Kd.M (Kd.int .i64) _ _ _ 13 [.int .i64 13] from rfl) (Reps.none _ _)))); intro v289 w10 ho10 hb hg_ hnew_; clear hg_ hnew_; rw [← Ny1.out] at ho10; have HO := za.mk ho10; clear ho10; have n0 := ze hb h0; have n1 := ze hb x0; have n2 := ze hb x1; have n3 := ze hb x2; have n4 := zg HBW.out hb; clear h0 x0 x1 x2 HBW; have h0 := n0; have x0 := n1; have x1 := n2; have x2 := n3; have HBW := za.mk n4; clear n0 n1 n2 n3 n4 hb; obtain ⟨Ao, co, eo⟩ := Kd.zia HO.out; subst eo)
       | (go_at_call 135; refine (impl_oneOf.calls 30 _ _ _ y1 _ _ (Kd.zt HO.out).2.2 (Kd.zt HO.out).2.1 HONE.out).mono ?_; rintro e w11 ⟨rfl, ⟨nd, rfl⟩⟩; have n4 := zb HBW.out nd; clear HBW; have HBW := za.mk n4; clear n4))
      go_ret
      exact ⟨by rw [HP.out]; rfl, (by repeat (first | (with_reducible first | exact HBW.out | apply zc | apply zb | apply zd) | exact HBW.out))⟩
     | false =>
      have Hwa := za.mk hwa
      have Hwb := za.mk hwb
      have HP : za (prd 8 a b s = false) := ⟨by unfold prd; simp only [Hwa.out, gb2.out, ga13.out, ga9.out, Hwb.out]; rfl⟩
      go_enter Try.func144, Try.ntmps144
      go_wp2_with (first
       | ((with_reducible refine zw (N := 2) rfl ?_); refine zca ?hg (N := 2) ?hd (cs := #[.int .i64 a, .int .i64 b, .int .i64 s]) (t := 99) ?hr ?_; (case hd => rfl); (case hg => rfl); (case hr => first | (go_simp; done) | (go_simp; rfl)); intro gb hgb w3 hbox hb; have HBOX := za.mk hbox; have x0 : w3.cell? ⟨gb, 0, none⟩ = some (.int .i64 a) := (zf HBOX.out 0).trans rfl; have x1 : w3.cell? ⟨gb, 1, none⟩ = some (.int .i64 b) := (zf HBOX.out 1).trans rfl; have x2 : w3.cell? ⟨gb, 2, none⟩ = some (.int .i64 s) := (zf HBOX.out 2).trans rfl; have n0 := ze hb h0; clear h0; have h0 := n0; have HBW := za.mk hb; clear n0 hgb hbox hb)
       | (go_at_call 134; refine (HW.out _ _).mono ?_; rintro e w9 ⟨rfl, hb⟩; have n0 := ze hb h0; have n1 := ze hb x0; have n2 := ze hb x1; have n3 := ze hb x2; have n4 := zg HBW.out hb; clear h0 x0 x1 x2 HBW; have h0 := n0; have x0 := n1; have x1 := n2; have x2 := n3; have HBW := za.mk n4; clear n0 n1 n2 n3 n4 hb)
       | ((with_reducible refine zw (N := 21) rfl ?_); (try (refine zla (by rfl) ?_; dsimp only)); refine Kd.zwa (Kd.int .i64) _ 3 ?hg (N := 21) ?hd (xs := ([12, 13] : List Int)) (inner := [.int .i64 12, .int .i64 13]) (ok := fun _ => True) (okp := fun _ => True) ?hr ?hp (fun _ hk => hk) trivial (Below.refl _ _) (Nat.le_refl _) (by simp) ?_; (case hd => rfl); (case hg => rfl); (case hr => first | (go_simp; done) | (go_simp; rfl)); (case hp => exact (Reps.one (show Kd.M (Kd.int .i64) _ _ _ 12 [.int .i64 12] from rfl) (Reps.one (show Kd.M (Kd.int .i64) _ _ _ 13 [.int .i64 13] from rfl) (Reps.none _ _)))); intro v289 w10 ho10 hb hg_ hnew_; clear hg_ hnew_; rw [← Ny1.out] at ho10; have HO := za.mk ho10; clear ho10; have n0 := ze hb h0; have n1 := ze hb x0; have n2 := ze hb x1; have n3 := ze hb x2; have n4 := zg HBW.out hb; clear h0 x0 x1 x2 HBW; have h0 := n0; have x0 := n1; have x1 := n2; have x2 := n3; have HBW := za.mk n4; clear n0 n1 n2 n3 n4 hb; obtain ⟨Ao, co, eo⟩ := Kd.zia HO.out; subst eo)
       | (go_at_call 135; refine (impl_oneOf.calls 30 _ _ _ y1 _ _ (Kd.zt HO.out).2.2 (Kd.zt HO.out).2.1 HONE.out).mono ?_; rintro e w11 ⟨rfl, ⟨nd, rfl⟩⟩; have n4 := zb HBW.out nd; clear HBW; have HBW := za.mk n4; clear n4))
      go_ret
      exact ⟨by rw [HP.out]; rfl, (by repeat (first | (with_reducible first | exact HBW.out | apply zc | apply zb | apply zd) | exact HBW.out))⟩
    | false =>
     have ga9 := za.mk ha9
     have Hwa := za.mk hwa
     have HP : za (prd 8 a b s = false) := ⟨by unfold prd; simp only [Hwa.out, gb2.out, ga13.out, ga9.out]; rfl⟩
     go_enter Try.func144, Try.ntmps144
     go_wp2_with (first
      | ((with_reducible refine zw (N := 2) rfl ?_); refine zca ?hg (N := 2) ?hd (cs := #[.int .i64 a, .int .i64 b, .int .i64 s]) (t := 99) ?hr ?_; (case hd => rfl); (case hg => rfl); (case hr => first | (go_simp; done) | (go_simp; rfl)); intro gb hgb w3 hbox hb; have HBOX := za.mk hbox; have x0 : w3.cell? ⟨gb, 0, none⟩ = some (.int .i64 a) := (zf HBOX.out 0).trans rfl; have x1 : w3.cell? ⟨gb, 1, none⟩ = some (.int .i64 b) := (zf HBOX.out 1).trans rfl; have x2 : w3.cell? ⟨gb, 2, none⟩ = some (.int .i64 s) := (zf HBOX.out 2).trans rfl; have n0 := ze hb h0; clear h0; have h0 := n0; have HBW := za.mk hb; clear n0 hgb hbox hb)
      | (go_at_call 134; refine (HW.out _ _).mono ?_; rintro e w9 ⟨rfl, hb⟩; have n0 := ze hb h0; have n1 := ze hb x0; have n2 := ze hb x1; have n3 := ze hb x2; have n4 := zg HBW.out hb; clear h0 x0 x1 x2 HBW; have h0 := n0; have x0 := n1; have x1 := n2; have x2 := n3; have HBW := za.mk n4; clear n0 n1 n2 n3 n4 hb)
      | ((with_reducible refine zw (N := 21) rfl ?_); (try (refine zla (by rfl) ?_; dsimp only)); refine Kd.zwa (Kd.int .i64) _ 3 ?hg (N := 21) ?hd (xs := ([12, 13] : List Int)) (inner := [.int .i64 12, .int .i64 13]) (ok := fun _ => True) (okp := fun _ => True) ?hr ?hp (fun _ hk => hk) trivial (Below.refl _ _) (Nat.le_refl _) (by simp) ?_; (case hd => rfl); (case hg => rfl); (case hr => first | (go_simp; done) | (go_simp; rfl)); (case hp => exact (Reps.one (show Kd.M (Kd.int .i64) _ _ _ 12 [.int .i64 12] from rfl) (Reps.one (show Kd.M (Kd.int .i64) _ _ _ 13 [.int .i64 13] from rfl) (Reps.none _ _)))); intro v289 w10 ho10 hb hg_ hnew_; clear hg_ hnew_; rw [← Ny1.out] at ho10; have HO := za.mk ho10; clear ho10; have n0 := ze hb h0; have n1 := ze hb x0; have n2 := ze hb x1; have n3 := ze hb x2; have n4 := zg HBW.out hb; clear h0 x0 x1 x2 HBW; have h0 := n0; have x0 := n1; have x1 := n2; have x2 := n3; have HBW := za.mk n4; clear n0 n1 n2 n3 n4 hb; obtain ⟨Ao, co, eo⟩ := Kd.zia HO.out; subst eo)
      | (go_at_call 135; refine (impl_oneOf.calls 30 _ _ _ y1 _ _ (Kd.zt HO.out).2.2 (Kd.zt HO.out).2.1 HONE.out).mono ?_; rintro e w11 ⟨rfl, ⟨nd, rfl⟩⟩; have n4 := zb HBW.out nd; clear HBW; have HBW := za.mk n4; clear n4))
     go_ret
     exact ⟨by rw [HP.out]; rfl, (by repeat (first | (with_reducible first | exact HBW.out | apply zc | apply zb | apply zd) | exact HBW.out))⟩
set_option maxHeartbeats 4000000 in
set_option maxRecDepth 100000 in
theorem verdict144 (b0 b1 b2 : Nat) (ans a b s : Int) (w : World) (h0 : w.cell? ⟨b0, 0, none⟩ = some (.func (.func 134) #[] #[])) (h1 : w.cell? ⟨b1, 0, none⟩ = some (.int .i64 ans)) (h2 : w.cell? ⟨b2, 0, none⟩ = some (.func (.func 144) #[] #[.pointer (some ⟨b0, 0, none⟩)])) :
  Calls Try.prog 133 #[.agg #[.int .i64 a, .int .i64 b, .int .i64 s], .pointer (some ⟨b1, 0, none⟩), .pointer (some ⟨b2, 0, none⟩)] w fun e w' => e = .returned (.tuple #[.int .i64 ans, .bool (prd 8 a b s)]) ∧ Below w.heap.size w w' := by
 have hu99 := Try.underlying99
 have HR := za.mk (fun (W : World) (hb : Below w.heap.size w W) => rule11_calls b0 a b s W (ze hb h0))
 clear h0
 generalize hpr : prd 8 a b s = r at HR ⊢
 clear hpr
 go_enter Try.func133, Try.ntmps133
 go_wp2_with ((with_reducible refine zw (N := 3) rfl ?_); refine zca ?hg (N := 3) ?hd (cs := #[.int .i64 a, .int .i64 b, .int .i64 s]) (t := 99) ?hr ?_; (case hd => rfl); (case hg => rfl); (case hr => first | (go_simp; done) | (go_simp; rfl)); intro gb hgb w3 hbox hbel; have HBOX := za.mk hbox; have HBEL := za.mk hbel; have k1 := zja (ze hbel h1); have k2 := zja (ze hbel h2); have x0 : ∀ p : zva w3, p.out.cell? ⟨gb, 0, none⟩ = some (.int .i64 a) := zja ((zf HBOX.out 0).trans rfl); have x1 : ∀ p : zva w3, p.out.cell? ⟨gb, 1, none⟩ = some (.int .i64 b) := zja ((zf HBOX.out 1).trans rfl); have x2 : ∀ p : zva w3, p.out.cell? ⟨gb, 2, none⟩ = some (.int .i64 s) := zja ((zf HBOX.out 2).trans rfl); clear h1 h2 hgb hbox hbel)
 refine zrb (by kernel_rfl) (by kernel_rfl) ?_
 repeat (quiet_step ((go_at_call 144; exact ztb (HR.out _ (zg HBEL.out (zva.below _))))))
 refine wpQuiet_nil ?_
 intro _ hw'
 obtain ⟨p, hw''⟩ := hw'
 subst hw''
 go_wp2
 go_ret2
 exact ⟨rfl, zg HBEL.out p.below⟩
def zoa (w : World) (b c : Nat) (ans : Int) (fv : Value) : Prop := w.heap[b]? = some (.cells #[.int .i64 ans] 3 (0, 0)) ∧ w.heap[c]? = some (.cells #[fv] 110 (0, 0))
theorem zoa.below {w w' : World} {b c : Nat} {ans : Int} {fv : Value} (h : zoa w b c ans fv) (hb : Below w.heap.size w w') : zoa w' b c ans fv :=
 ⟨(hb.block b (zta h.1)).trans h.1, (hb.block c (zta h.2)).trans h.2⟩
def ruleV (b c : Nat) : Value := .func (.func 133) #[] #[.pointer (some ⟨b, 0, none⟩), .pointer (some ⟨c, 0, none⟩)]
def RuleAt (w : World) (b c i : Nat) : Prop := ∀ (a b' s : Int) (W : World), Below w.heap.size w W → Calls Try.prog 133 #[.agg #[.int .i64 a, .int .i64 b', .int .i64 s], .pointer (some ⟨b, 0, none⟩), .pointer (some ⟨c, 0, none⟩)] W fun e W' => e = .returned (.tuple #[.int .i64 (ansL i), .bool (prd i a b' s)]) ∧ Below W.heap.size W W'
theorem RuleAt.below {w w' : World} {b c i : Nat} (h : RuleAt w b c i) (hb : Below w.heap.size w w') : RuleAt w' b c i := fun a b' s W hW => h a b' s W (zg hb hW)
theorem rule_at0 {w : World} {b c : Nat} (h : zoa w b c (ansL 0) (.func (.func 136) #[] #[])) : RuleAt w b c 0 := fun a b' s W hb =>
 verdict136 b c (ansL 0) a b' s (prd 0 a b' s) W (ze hb ((zf h.1 0).trans rfl)) (ze hb ((zf h.2 0).trans rfl)) (fun W' => impl_rules_3.calls a b' s _ W' (rules_3_eq a b' s))
theorem rule_at1 {w : World} {b c : Nat} (h : zoa w b c (ansL 1) (.func (.func 137) #[] #[])) : RuleAt w b c 1 := fun a b' s W hb =>
 verdict137 b c (ansL 1) a b' s (prd 1 a b' s) W (ze hb ((zf h.1 0).trans rfl)) (ze hb ((zf h.2 0).trans rfl)) (fun W' => impl_rules_4.calls 30 a b' s _ W' (rules_4_eq a b' s))
theorem rule_at2 {w : World} {b c : Nat} (h : zoa w b c (ansL 2) (.func (.func 138) #[] #[])) : RuleAt w b c 2 := fun a b' s W hb =>
 verdict138 b c (ansL 2) a b' s (prd 2 a b' s) W (ze hb ((zf h.1 0).trans rfl)) (ze hb ((zf h.2 0).trans rfl)) (fun W' => impl_rules_5.calls a b' s _ W' (rules_5_eq a b' s))
theorem rule_at3 {w : World} {b c : Nat} (h : zoa w b c (ansL 3) (.func (.func 139) #[] #[])) : RuleAt w b c 3 := fun a b' s W hb =>
 verdict139 b c (ansL 3) a b' s (prd 3 a b' s) W (ze hb ((zf h.1 0).trans rfl)) (ze hb ((zf h.2 0).trans rfl)) (fun W' => impl_rules_6.calls 30 a b' s _ W' (rules_6_eq a b' s))
theorem rule_at4 {w : World} {b c : Nat} (h : zoa w b c (ansL 4) (.func (.func 140) #[] #[])) : RuleAt w b c 4 := fun a b' s W hb =>
 verdict140 b c (ansL 4) a b' s (prd 4 a b' s) W (ze hb ((zf h.1 0).trans rfl)) (ze hb ((zf h.2 0).trans rfl)) (fun W' => impl_rules_7.calls 30 a b' s _ W' (rules_7_eq a b' s))
theorem rule_at5 {w : World} {b c : Nat} (h : zoa w b c (ansL 5) (.func (.func 141) #[] #[])) : RuleAt w b c 5 := fun a b' s W hb =>
 verdict141 b c (ansL 5) a b' s (prd 5 a b' s) W (ze hb ((zf h.1 0).trans rfl)) (ze hb ((zf h.2 0).trans rfl)) (fun W' => impl_rules_8.calls a b' s _ W' (rules_8_eq a b' s))
theorem rule_at6 {w : World} {b c : Nat} (h : zoa w b c (ansL 6) (.func (.func 142) #[] #[])) : RuleAt w b c 6 := fun a b' s W hb =>
 verdict142 b c (ansL 6) a b' s (prd 6 a b' s) W (ze hb ((zf h.1 0).trans rfl)) (ze hb ((zf h.2 0).trans rfl)) (fun W' => impl_rules_9.calls a b' s _ W' (rules_9_eq a b' s))
theorem rule_at7 {w : World} {b c : Nat} (h : zoa w b c (ansL 7) (.func (.func 143) #[] #[])) : RuleAt w b c 7 := fun a b' s W hb =>
 verdict143 b c (ansL 7) a b' s (prd 7 a b' s) W (ze hb ((zf h.1 0).trans rfl)) (ze hb ((zf h.2 0).trans rfl)) (fun W' => impl_rules_10.calls 30 a b' s _ W' (rules_10_eq a b' s))
theorem rule_at9 {w : World} {b c : Nat} (h : zoa w b c (ansL 9) (.func (.func 145) #[] #[])) : RuleAt w b c 9 := fun a b' s W hb =>
 verdict145 b c (ansL 9) a b' s (prd 9 a b' s) W (ze hb ((zf h.1 0).trans rfl)) (ze hb ((zf h.2 0).trans rfl)) (fun W' => impl_rules_12.calls a b' s _ W' (rules_12_eq a b' s))
theorem rule_at8 {w : World} {b c b0 : Nat} (h : zoa w b c (ansL 8) (.func (.func 144) #[] #[.pointer (some ⟨b0, 0, none⟩)])) (h0 : w.heap[b0]? = some (.cells #[.func (.func 134) #[] #[]] 71 (0, 0))) : RuleAt w b c 8 := fun a b' s W hb =>
 verdict144 b0 b c (ansL 8) a b' s W (ze hb ((zf h0 0).trans rfl)) (ze hb ((zf h.1 0).trans rfl)) (ze hb ((zf h.2 0).trans rfl))
theorem rules_calls (w : World) :
  Calls Try.prog 116 #[] w fun e w' => ∃ (g : Nat) (B C : Nat → Nat), e = .returned (.slice (some ⟨g, 0, none⟩) 10 10) ∧ (∀ i, i < 10 → w'.cell? ⟨g, i, none⟩ = some (ruleV (B i) (C i))) ∧ (∀ i, i < 10 → RuleAt w' (B i) (C i) i) ∧ Below w.heap.size w w' := by
 go_enter Try.func116, Try.ntmps116
 go_wp2_with (fail)
 obtain ⟨w0, hw0⟩ : ∃ w0 : World, w0 = w.alloc (Obj.cells #[Value.func (Fn.func 134) #[] #[]] 71 (0, 0)) := ⟨_, rfl⟩
 rw [← hw0]
 have HX : za (w0.heap[w.heap.size]? = some (.cells #[.func (.func 134) #[] #[]] 71 (0, 0))) := ⟨by rw [hw0]; exact blk_new w _⟩
 have HB : za (Below w.heap.size w w0) := ⟨by rw [hw0]; exact zc (Below.refl _ _) _⟩
 clear hw0
 refine (zxb 2 136 #[] w0).mono ?_
 rintro e w1 ⟨b0, c0, rfl, hx, hb⟩
 have H0 : za (zoa w1 b0 c0 (ansL 0) (.func (.func 136) #[] #[])) := ⟨hx⟩
 replace HX := za.mk ((hb.block _ (zta HX.out)).trans HX.out)
 replace HB := za.mk (zg HB.out hb)
 clear hx hb
 go_wp2_with (fail)
 refine (zxb 0 137 #[] w1).mono ?_
 rintro e w2 ⟨b1, c1, rfl, hx, hb⟩
 have H1 : za (zoa w2 b1 c1 (ansL 1) (.func (.func 137) #[] #[])) := ⟨hx⟩
 replace H0 := za.mk (zoa.below H0.out hb)
 replace HX := za.mk ((hb.block _ (zta HX.out)).trans HX.out)
 replace HB := za.mk (zg HB.out hb)
 clear hx hb
 go_wp2_with (fail)
 refine (zxb 1 138 #[] w2).mono ?_
 rintro e w3 ⟨b2, c2, rfl, hx, hb⟩
 have H2 : za (zoa w3 b2 c2 (ansL 2) (.func (.func 138) #[] #[])) := ⟨hx⟩
 replace H0 := za.mk (zoa.below H0.out hb)
 replace H1 := za.mk (zoa.below H1.out hb)
 replace HX := za.mk ((hb.block _ (zta HX.out)).trans HX.out)
 replace HB := za.mk (zg HB.out hb)
 clear hx hb
 go_wp2_with (fail)
 refine (zxb 0 139 #[] w3).mono ?_
 rintro e w4 ⟨b3, c3, rfl, hx, hb⟩
 have H3 : za (zoa w4 b3 c3 (ansL 3) (.func (.func 139) #[] #[])) := ⟨hx⟩
 replace H0 := za.mk (zoa.below H0.out hb)
 replace H1 := za.mk (zoa.below H1.out hb)
 replace H2 := za.mk (zoa.below H2.out hb)
 replace HX := za.mk ((hb.block _ (zta HX.out)).trans HX.out)
 replace HB := za.mk (zg HB.out hb)
 clear hx hb
 go_wp2_with (fail)
 refine (zxb 0 140 #[] w4).mono ?_
 rintro e w5 ⟨b4, c4, rfl, hx, hb⟩
 have H4 : za (zoa w5 b4 c4 (ansL 4) (.func (.func 140) #[] #[])) := ⟨hx⟩
 replace H0 := za.mk (zoa.below H0.out hb)
 replace H1 := za.mk (zoa.below H1.out hb)
 replace H2 := za.mk (zoa.below H2.out hb)
 replace H3 := za.mk (zoa.below H3.out hb)
 replace HX := za.mk ((hb.block _ (zta HX.out)).trans HX.out)
 replace HB := za.mk (zg HB.out hb)
 clear hx hb
 go_wp2_with (fail)
 refine (zxb 0 141 #[] w5).mono ?_
 rintro e w6 ⟨b5, c5, rfl, hx, hb⟩
 have H5 : za (zoa w6 b5 c5 (ansL 5) (.func (.func 141) #[] #[])) := ⟨hx⟩
 replace H0 := za.mk (zoa.below H0.out hb)
 replace H1 := za.mk (zoa.below H1.out hb)
 replace H2 := za.mk (zoa.below H2.out hb)
 replace H3 := za.mk (zoa.below H3.out hb)
 replace H4 := za.mk (zoa.below H4.out hb)
 replace HX := za.mk ((hb.block _ (zta HX.out)).trans HX.out)
 replace HB := za.mk (zg HB.out hb)
 clear hx hb
 go_wp2_with (fail)
 refine (zxb 1 142 #[] w6).mono ?_
 rintro e w7 ⟨b6, c6, rfl, hx, hb⟩
 have H6 : za (zoa w7 b6 c6 (ansL 6) (.func (.func 142) #[] #[])) := ⟨hx⟩
 replace H0 := za.mk (zoa.below H0.out hb)
 replace H1 := za.mk (zoa.below H1.out hb)
 replace H2 := za.mk (zoa.below H2.out hb)
 replace H3 := za.mk (zoa.below H3.out hb)
 replace H4 := za.mk (zoa.below H4.out hb)
 replace H5 := za.mk (zoa.below H5.out hb)
 replace HX := za.mk ((hb.block _ (zta HX.out)).trans HX.out)
 replace HB := za.mk (zg HB.out hb)
 clear hx hb
 go_wp2_with (fail)
 refine (zxb 0 143 #[] w7).mono ?_
 rintro e w8 ⟨b7, c7, rfl, hx, hb⟩
 have H7 : za (zoa w8 b7 c7 (ansL 7) (.func (.func 143) #[] #[])) := ⟨hx⟩
 replace H0 := za.mk (zoa.below H0.out hb)
 replace H1 := za.mk (zoa.below H1.out hb)
 replace H2 := za.mk (zoa.below H2.out hb)
 replace H3 := za.mk (zoa.below H3.out hb)
 replace H4 := za.mk (zoa.below H4.out hb)
 replace H5 := za.mk (zoa.below H5.out hb)
 replace H6 := za.mk (zoa.below H6.out hb)
 replace HX := za.mk ((hb.block _ (zta HX.out)).trans HX.out)
 replace HB := za.mk (zg HB.out hb)
 clear hx hb
 go_wp2_with (fail)
 refine (zxb 0 144 #[.pointer (some ⟨w.heap.size, 0, none⟩)] w8).mono ?_
 rintro e w9 ⟨b8, c8, rfl, hx, hb⟩
 have H8 : za (zoa w9 b8 c8 (ansL 8) (.func (.func 144) #[] #[.pointer (some ⟨w.heap.size, 0, none⟩)])) := ⟨hx⟩
 replace H0 := za.mk (zoa.below H0.out hb)
 replace H1 := za.mk (zoa.below H1.out hb)
 replace H2 := za.mk (zoa.below H2.out hb)
 replace H3 := za.mk (zoa.below H3.out hb)
 replace H4 := za.mk (zoa.below H4.out hb)
 replace H5 := za.mk (zoa.below H5.out hb)
 replace H6 := za.mk (zoa.below H6.out hb)
 replace H7 := za.mk (zoa.below H7.out hb)
 replace HX := za.mk ((hb.block _ (zta HX.out)).trans HX.out)
 replace HB := za.mk (zg HB.out hb)
 clear hx hb
 go_wp2_with (fail)
 refine (zxb 1 145 #[] w9).mono ?_
 rintro e w10 ⟨b9, c9, rfl, hx, hb⟩
 have H9 : za (zoa w10 b9 c9 (ansL 9) (.func (.func 145) #[] #[])) := ⟨hx⟩
 replace H0 := za.mk (zoa.below H0.out hb)
 replace H1 := za.mk (zoa.below H1.out hb)
 replace H2 := za.mk (zoa.below H2.out hb)
 replace H3 := za.mk (zoa.below H3.out hb)
 replace H4 := za.mk (zoa.below H4.out hb)
 replace H5 := za.mk (zoa.below H5.out hb)
 replace H6 := za.mk (zoa.below H6.out hb)
 replace H7 := za.mk (zoa.below H7.out hb)
 replace H8 := za.mk (zoa.below H8.out hb)
 replace HX := za.mk ((hb.block _ (zta HX.out)).trans HX.out)
 replace HB := za.mk (zg HB.out hb)
 clear hx hb
 go_wp2
 go_ret
 refine ⟨w10.heap.size, fun i => [b0, b1, b2, b3, b4, b5, b6, b7, b8, b9].getD i 0, fun i => [c0, c1, c2, c3, c4, c5, c6, c7, c8, c9].getD i 0, rfl, ?_, ?_, zc HB.out _⟩
 ·intro i hi
  have : i = 0 ∨ i = 1 ∨ i = 2 ∨ i = 3 ∨ i = 4 ∨ i = 5 ∨ i = 6 ∨ i = 7 ∨ i = 8 ∨ i = 9 := by omega
  rcases this with rfl | rfl | rfl | rfl | rfl | rfl | rfl | rfl | rfl | rfl <;> exact (zf (blk_new w10 _) _).trans rfl
 ·intro i hi
  have : i = 0 ∨ i = 1 ∨ i = 2 ∨ i = 3 ∨ i = 4 ∨ i = 5 ∨ i = 6 ∨ i = 7 ∨ i = 8 ∨ i = 9 := by omega
  rcases this with rfl | rfl | rfl | rfl | rfl | rfl | rfl | rfl | rfl | rfl
  ·exact (rule_at0 H0.out).below (zc (Below.refl _ _) _)
  ·exact (rule_at1 H1.out).below (zc (Below.refl _ _) _)
  ·exact (rule_at2 H2.out).below (zc (Below.refl _ _) _)
  ·exact (rule_at3 H3.out).below (zc (Below.refl _ _) _)
  ·exact (rule_at4 H4.out).below (zc (Below.refl _ _) _)
  ·exact (rule_at5 H5.out).below (zc (Below.refl _ _) _)
  ·exact (rule_at6 H6.out).below (zc (Below.refl _ _) _)
  ·exact (rule_at7 H7.out).below (zc (Below.refl _ _) _)
  ·exact (rule_at8 H8.out HX.out).below (zc (Below.refl _ _) _)
  ·exact (rule_at9 H9.out).below (zc (Below.refl _ _) _)
def verdF (a b s : Int) : Nat → Nat → Int
 | 0, _ => 0
 | n + 1, i => if prd i a b s = true then ansL i else verdF a b s n (i + 1)
def verd (a b s : Int) : Int := verdF a b s 10 0
def brk1 (k : Nat) (a b r s : Int) (j : Bool) : Option Int :=
 if j = true then some 0 else (impl_RuneLine.f k r).bind fun t => if t = 7 then ((impl_afterSpace.f k a).bind fun u => if u = true then some (verd a b s) else some 0) else some (verd a b s)
def brkGo (k : Nat) (l cs : List Int) (js : List Bool) : Int → Nat → List Int → Option (List Int)
 | _, _, [] => some []
 | s, i, a :: rest =>
  if i + 1 = l.length then (brkGo k l cs js (if a = 3 then s else a) (i + 1) rest).bind fun t => some (2 :: t)
  else (brk1 k a (cs.getD (i + 1) 0) (l.getD (i + 1) 0) (if a = 3 then s else a) (js.getD (i + 1) false)).bind fun x => (brkGo k l cs js (if a = 3 then s else a) (i + 1) rest).bind fun t => some (x :: t)
def impl_breaks.f (k : Nat) (l0 : List Int) : Option (List Int) :=
 (impl_countsOf.f k l0).bind fun cs => (impl_joined.f k l0).bind fun js => if cs.length = l0.length ∧ js.length = l0.length ∧ l0.length ≤ 1000 then brkGo k l0 cs js 0 0 cs else none
set_option maxHeartbeats 40000000 in
set_option maxRecDepth 100000 in
theorem impl_breaks.calls (k : Nat) (A0 : Option Addr) (c0 : Nat) (l0 : List Int) (r : List Int) (w : World) (hr0 : Kd.C (Kd.int .i64) w A0 l0.length l0) (hc0 : l0.length ≤ c0) (h : impl_breaks.f k l0 = some r) :
  Calls Try.prog 77 #[.slice A0 l0.length c0] w fun e w' => ∃ v0_ : Value, e = .returned (v0_) ∧ Kd.R (Kd.int .i64) 3 w' w.heap.size (fun _ => True) v0_ r ∧ Below w.heap.size w w' := by
 unfold impl_breaks.f at h
 obtain ⟨cs, hcs, h'⟩ := Option.bind_eq_some_iff.mp h
 obtain ⟨js, hjs, h''⟩ := Option.bind_eq_some_iff.mp h'
 clear h h'
 by_cases hl : cs.length = l0.length ∧ js.length = l0.length ∧ l0.length ≤ 1000
 case neg => rw [if_neg hl] at h''; exact absurd h'' (by simp)
 rw [if_pos hl] at h''
 have HGO := za.mk h''
 have HLEN := za.mk hl
 have hbig : l0.length ≤ 1000 := hl.2.2
 have hbigc : cs.length ≤ 1000 := by omega
 have HR0 := za.mk hr0
 have HC0 := za.mk hc0
 have HCS := za.mk hcs
 have HJS := za.mk hjs
 clear hr0 hc0 hcs hjs hl h''
 go_enter Try.func77, Try.ntmps77
 go_wp2_with (first | (go_at_call 115; refine (impl_countsOf.calls k A0 c0 l0 cs _ HR0.out HC0.out HCS.out).mono ?_; rintro e w1 ⟨v1, rfl, ho1, hb1⟩; obtain ⟨A1, c1, e1⟩ := Kd.zia ho1; subst e1; have HCC := za.mk ((Kd.zt ho1).2.2); have HB1 := za.mk hb1; clear ho1 hb1) | (go_at_call 105; refine (impl_joined.calls k A0 c0 l0 js _ (Kd.zka HR0.out HB1.out) HC0.out HJS.out).mono ?_; rintro e w2 ⟨v2, rfl, ho2, hb2⟩; obtain ⟨A2, c2, e2⟩ := Kd.zia ho2; subst e2; have HJJ := za.mk ((Kd.zt ho2).2.2); have HB2 := za.mk hb2; clear ho2 hb2) | (go_at_call 116; refine (rules_calls _).mono ?_; rintro e w3 ⟨g, B, C, rfl, hcell, hrule, hb3⟩; have HRC := za.mk hcell; have HRL := za.mk hrule; have HB3 := za.mk hb3; clear hcell hrule hb3))
 have HL0 := za.mk (Kd.zka (Kd.zka (Kd.zka HR0.out HB1.out) HB2.out) HB3.out)
 have HCC3 := za.mk (Kd.zka (Kd.zka HCC.out HB2.out) HB3.out)
 have HJJ3 := za.mk (Kd.zka HJJ.out HB3.out)
 have HW3 := za.mk (zg (zg HB1.out HB2.out) HB3.out)
 clear HR0 HCC HJJ HB1 HB2 HB3
 go_loopg [6, 7, 21] cs.length (fun gg v6 v7 v21 wr => ∃ (pre suf out t : List Int) (s : Int), v7 = .int .i64 s ∧ v21 = .int .i64 (pre.length : Int) ∧ za (cs = pre ++ suf) ∧ za (suf.length ≤ gg) ∧ za (brkGo k l0 cs js s pre.length suf = some t ∧ r = out ++ t) ∧ za (out.length ≤ pre.length) ∧ za (Kd.R (Kd.int .i64) 3 wr w3.heap.size (fun _ => True) v6 out) ∧ za (Below w3.heap.size w3 wr))
 case atStart => exact ⟨[], cs, [], r, 0, rfl, by simp, ⟨rfl⟩, ⟨Nat.le_refl _⟩, ⟨HGO.out, rfl⟩, ⟨by simp⟩, ⟨Kd.R_nil _ _ _ _ _⟩, ⟨Below.refl _ _⟩⟩
 case round =>
  obtain ⟨pre, suf, out, t, s, rfl, rfl, HE, HK, HT, HOL0, HO, HB⟩ := hrel
  generalize hp : pre.length = p
  have Hp := za.mk hp
  clear hp
  have HOL : za (out.length ≤ 1000) := ⟨by have h1 := HOL0.out; have h2 := congrArg List.length HE.out; have h3 := Hp.out; have h4 := HLEN.out; simp at h2; omega⟩
  obtain ⟨Ao, co, eo⟩ := Kd.zia HO.out
  subst eo
  by_cases hlt : p < cs.length
  ·have hltz : (p : Int) < (cs.length : Int) := by omega
   obtain ⟨a, suf', rfl⟩ : ∃ x s, suf = x :: s := by
    cases suf with
    | nil => exfalso; have h1 := congrArg List.length HE.out; have h2 := Hp.out; simp at h1; omega
    | cons x s => exact ⟨x, s, rfl⟩
   obtain ⟨ad, e0, hx⟩ := Kd.zfa (Kd.zka HCC3.out HB.out) (p : Int) (by omega) (by omega)
   cases e0
   rw [Int.toNat_natCast] at hx
   have hxx : rd cs (p : Int) = a := by
    rw [HE.out, ← Hp.out]
    unfold rd
    rw [Int.toNat_natCast, List.getD_eq_getElem?_getD]
    simp
   rw [hxx] at hx
   clear hxx
   have HT1 := HT.out.1
   rw [Hp.out, brkGo] at HT1
   have HS : ∀ s', s' = (if a = 3 then s else a) → za (s' = (if a = 3 then s else a)) := fun _ h => ⟨h⟩
   clear HS
   by_cases ha3 : a = 3
   ·have c3b : (a != 3) = false := by simp [ha3]
    obtain ⟨s', hs'⟩ : ∃ s', s' = s := ⟨_, rfl⟩
    have Hs' : za (s' = if a = 3 then s else a) := ⟨by rw [if_pos ha3]; exact hs'⟩
    subst hs'
    clear ha3
    by_cases hlast : p + 1 = l0.length
    ·have hl1 : ((p : Int) == (l0.length : Int) - 1) = true := beq_iff_eq.mpr (by omega)
     have hl2 : ((p : Int) = (l0.length : Int) - 1) = True := eq_true (by omega)
     have hl3 : decide ((p : Int) = (l0.length : Int) - 1) = true := decide_eq_true (by omega)
     rw [if_pos hlast, ← Hs'.out] at HT1
     obtain ⟨t2, hg2, ht2⟩ := Option.bind_eq_some_iff.mp HT1
     have HT2 : za (brkGo k l0 cs js s' (p + 1) suf' = some t2 ∧ t = 2 :: t2) := ⟨hg2, (Option.some.inj ht2).symm⟩
     clear HT1 hg2 ht2 hlast
     go_wp2_with (first | ((with_reducible refine zra (b := .append) (xs := #[.tmp 34, .tmp 35]) rfl ?_); at_builtin; refine Kd.zza (Kd.int .i64) (w0 := w3) w3.heap.size rfl (.tmp 34) (.tmp 35) 22 3 (.int .i64 0) 8 rfl Try.underlying22 info3 rfl (by decide) (by omega) (.slice Ao out.length co) out (2) [.int .i64 (2)] (fun _ => True) (fun _ => False) rfl rfl ?aP (fun _ hk => hk.elim) ?aF ?aO ?aB ?aS ?aL ?_; (case aP => exact rfl); (case aB => exact (by repeat (first | (with_reducible first | exact HB.out | apply zc | apply zb | apply zd) | exact HB.out))); (case aF => exact (fun _ _ => trivial)); (case aO => exact (by (with_reducible repeat (first | apply Kd.zn | apply Kd.zo | apply Kd.zq)); exact HO.out)); (case aS => exact (zp (by repeat (first | (with_reducible first | exact HB.out | apply zc | apply zb | apply zd) | exact HB.out)))); (case aL => have := HOL.out; omega); intro vq wq2 ho hb hg hat; have HB' := za.mk hb; have HO' := za.mk ho; clear HB HO; have HB := HB'; have HO := HO'; clear HB' HO' ho hb hg hat))
     go_roundg (gk - 1)
     case measure => have h1 := HK.out; simp at h1; omega
     case rel =>
      refine ⟨pre ++ [a], suf', out ++ [2], t2, s', rfl, ?_, ⟨by rw [HE.out]; simp⟩, ⟨by have h1 := HK.out; simp at h1; omega⟩, ⟨?_, ?_⟩, ⟨?_⟩, HO, HB⟩
      ·simp only [List.length_append, List.length_singleton]
       rw [Hp.out]
       rfl
      ·have h1 := HT2.out.1
       rw [List.length_append, List.length_singleton, Hp.out]
       exact h1
      ·rw [HT.out.2, HT2.out.2]
       simp
      ·have h1 := HOL0.out
       have h2 := Hp.out
       simp only [List.length_append, List.length_singleton]
       omega
    ·have hl1 : ((p : Int) == (l0.length : Int) - 1) = false := beq_eq_false_iff_ne.mpr (by omega)
     have hl2 : ((p : Int) = (l0.length : Int) - 1) = False := eq_false (by omega)
     have hl3 : decide ((p : Int) = (l0.length : Int) - 1) = false := decide_eq_false (by omega)
     rw [if_neg hlast, ← Hs'.out] at HT1
     obtain ⟨x, hx1, HT1'⟩ := Option.bind_eq_some_iff.mp HT1
     obtain ⟨t2, hg2, ht2⟩ := Option.bind_eq_some_iff.mp HT1'
     have HT2' : za (brkGo k l0 cs js s' (p + 1) suf' = some t2 ∧ t = x :: t2) := ⟨hg2, (Option.some.inj ht2).symm⟩
     clear HT1 HT1' hg2 ht2
     have hp1 : (p : Int) + 1 < (l0.length : Int) := by have := HLEN.out; omega
     have hp2 : (p : Int) + 1 < (js.length : Int) := by have := HLEN.out; omega
     have hp3 : (p : Int) + 1 < (cs.length : Int) := by have := HLEN.out; omega
     clear hlast
     obtain ⟨adj, ej, hj⟩ := Kd.at_bool (Kd.zka HJJ3.out HB.out) ((p : Int) + 1) (by omega) hp2
     cases ej
     obtain ⟨adr, er, hr⟩ := Kd.zfa (Kd.zka HL0.out HB.out) ((p : Int) + 1) (by omega) hp1
     cases er
     obtain ⟨adb, eb, hb⟩ := Kd.zfa (Kd.zka HCC3.out HB.out) ((p : Int) + 1) (by omega) hp3
     have hadb : adb = ad := by injection eb with eb; exact eb.symm
     subst hadb
     clear eb
     have ht1 : ((p : Int) + 1).toNat = p + 1 := by omega
     have hrdj : rdOf false js ((p : Int) + 1) = js.getD (p + 1) false := by unfold rdOf; rw [ht1]
     have hrdr : rd l0 ((p : Int) + 1) = l0.getD (p + 1) 0 := by unfold rd; rw [ht1]
     have hrdb : rd cs ((p : Int) + 1) = cs.getD (p + 1) 0 := by unfold rd; rw [ht1]
     have hadd : ∀ ad : Addr, ad.add (p + 1) = ⟨ad.block, ad.off + (p + 1), none⟩ := fun ad => by unfold Addr.add; rw [if_neg (by omega)]
     rw [hrdj, ht1, hadd] at hj
     rw [hrdr, ht1, hadd] at hr
     rw [hrdb, ht1, hadd] at hb
     clear hrdj hrdr hrdb ht1 hadd
     generalize js.getD (p + 1) false = j at hj hx1
     generalize l0.getD (p + 1) 0 = rr at hr hx1
     generalize cs.getD (p + 1) 0 = b at hb hx1
     unfold brk1 at hx1
     cases j with
     | true =>
      rw [if_pos rfl] at hx1
      have HT2 : za (brkGo k l0 cs js s' (p + 1) suf' = some t2 ∧ t = 0 :: t2) := ⟨HT2'.out.1, by rw [HT2'.out.2, ← Option.some.inj hx1]⟩
      clear hx1 HT2'
      go_wp2_with (first | ((with_reducible refine zra (b := .append) (xs := #[.tmp 56, .tmp 57]) rfl ?_); at_builtin; refine Kd.zza (Kd.int .i64) (w0 := w3) w3.heap.size rfl (.tmp 56) (.tmp 57) 22 3 (.int .i64 0) 8 rfl Try.underlying22 info3 rfl (by decide) (by omega) (.slice Ao out.length co) out (0) [.int .i64 (0)] (fun _ => True) (fun _ => False) rfl rfl ?aP (fun _ hk => hk.elim) ?aF ?aO ?aB ?aS ?aL ?_; (case aP => exact rfl); (case aB => exact (by repeat (first | (with_reducible first | exact HB.out | apply zc | apply zb | apply zd) | exact HB.out))); (case aF => exact (fun _ _ => trivial)); (case aO => exact (by (with_reducible repeat (first | apply Kd.zn | apply Kd.zo | apply Kd.zq)); exact HO.out)); (case aS => exact (zp (by repeat (first | (with_reducible first | exact HB.out | apply zc | apply zb | apply zd) | exact HB.out)))); (case aL => have := HOL.out; omega); intro vq wq2 ho hb hg hat; have HB' := za.mk hb; have HO' := za.mk ho; clear HB HO; have HB := HB'; have HO := HO'; clear HB' HO' ho hb hg hat))
      go_roundg (gk - 1)
      case measure => have h1 := HK.out; simp at h1; omega
      case rel =>
       refine ⟨pre ++ [a], suf', out ++ [0], t2, s', rfl, ?_, ⟨by rw [HE.out]; simp⟩, ⟨by have h1 := HK.out; simp at h1; omega⟩, ⟨?_, ?_⟩, ⟨?_⟩, HO, HB⟩
       ·simp only [List.length_append, List.length_singleton]
        rw [Hp.out]
        rfl
       ·have h1 := HT2.out.1
        rw [List.length_append, List.length_singleton, Hp.out]
        exact h1
       ·rw [HT.out.2, HT2.out.2]
        simp
       ·have h1 := HOL0.out
        have h2 := Hp.out
        simp only [List.length_append, List.length_singleton]
        omega
     | false =>
      rw [if_neg (by decide)] at hx1
      obtain ⟨t7, ht7, hx2⟩ := Option.bind_eq_some_iff.mp hx1
      have HRLN := za.mk (fun W => impl_RuneLine.calls k rr t7 W ht7)
      clear ht7 hx1
      by_cases h7 : t7 = 7
      ·have h7b : (t7 == 7) = true := beq_iff_eq.mpr h7
       rw [if_pos h7] at hx2
       obtain ⟨uu, huu, hx3⟩ := Option.bind_eq_some_iff.mp hx2
       clear hx2
       have hx2 := hx3
       clear hx3 h7
       have HAS := za.mk (fun W => impl_afterSpace.calls k a uu W huu)
       clear huu
       cases uu with
       | true =>
        rw [if_pos rfl] at hx2
        have HT2 : za (brkGo k l0 cs js s' (p + 1) suf' = some t2 ∧ t = verd a b s' :: t2) := ⟨HT2'.out.1, by rw [HT2'.out.2, ← Option.some.inj hx2]⟩
        clear HT2' hx2
        have HNINE : za (∀ a b s : Int, prd 9 a b s = true) := ⟨fun _ _ _ => rfl⟩
        go_wp2_with (first | (go_at_call 117; refine (HRLN.out _).mono ?_; rintro e w5 ⟨rfl, hb5⟩; have HB' := za.mk (zg HB.out hb5); have HO' := za.mk (Kd.zba HO.out hb5); have hb' := ze hb5 hb; clear HB HO hb; have HB := HB'; have HO := HO'; have hb := hb'; clear HB' HO' hb' hb5) | (go_at_call 118; refine (HAS.out _).mono ?_; rintro e w6 ⟨rfl, hb6⟩; have HB' := za.mk (zg HB.out hb6); have HO' := za.mk (Kd.zba HO.out hb6); have hb' := ze hb6 hb; clear HB HO hb; have HB := HB'; have HO := HO'; have hb := hb'; clear HB' HO' hb' hb6))
        obtain ⟨go, rfl⟩ : ∃ go : Nat, go = gk := ⟨_, rfl⟩
        clear hx hj hr
        go_loopg [6, 61] 10 (fun gg v6 v61 wq => ∃ jx : Nat, v6 = .slice Ao out.length co ∧ v61 = .int .i64 (jx : Int) ∧ za (jx ≤ 9 ∧ 10 - jx ≤ gg) ∧ za (verd a b s' = verdF a b s' (10 - jx) jx) ∧ za (Kd.R (Kd.int .i64) 3 wq w3.heap.size (fun _ => True) (.slice Ao out.length co) out) ∧ za (Below w3.heap.size w3 wq) ∧ za (wq.cell? ⟨adb.block, adb.off + (p + 1), none⟩ = some (.int .i64 b)))
        case atStart => exact ⟨0, rfl, rfl, ⟨by omega, by omega⟩, ⟨rfl⟩, HO, HB, ⟨hb⟩⟩
        case round =>
         clear HO HB hb
         obtain ⟨jx, rfl, rfl, HJ, HV, HO, HB, HCB⟩ := hrel
         have hb := HCB.out
         have hjz : (jx : Int) < 10 := by have := HJ.out.1; omega
         have hjn : jx < 10 := by have := HJ.out.1; omega
         have hrc := ze HB.out (HRC.out jx hjn)
         unfold ruleV at hrc
         have HRLJ := za.mk (fun W hW => HRL.out jx hjn a b s' W hW)
         obtain ⟨nn, hnn⟩ : ∃ nn, 10 - jx = nn + 1 := ⟨9 - jx, by omega⟩
         have HV1 := HV.out
         rw [hnn, verdF] at HV1
         have HNN := za.mk hnn
         clear hnn
         generalize hpr : prd jx a b s' = q at HRLJ HV1
         generalize ansL jx = an at HRLJ HV1
         have HPR := za.mk hpr
         clear hpr hjn
         generalize B jx = Bj at hrc HRLJ
         generalize C jx = Cj at hrc HRLJ
         cases q with
         | true =>
          rw [if_pos rfl] at HV1
          have HVA := za.mk HV1
          clear HV1
          go_wp2_with (first | (go_at_call 133; refine (HRLJ.out _ (by exact HB.out)).mono ?_; rintro e w7 ⟨rfl, hb7⟩; have HB' := za.mk (zg HB.out hb7); have HO' := za.mk (Kd.zba HO.out hb7); have hb' := ze hb7 hb; clear HB HO hb; have HB := HB'; have HO := HO'; have hb := hb'; clear HB' HO' hb' hb7) | ((with_reducible refine zra (b := .append) (xs := #[.tmp 79, .tmp 81]) rfl ?_); at_builtin; refine Kd.zza (Kd.int .i64) (w0 := w3) w3.heap.size rfl (.tmp 79) (.tmp 81) 22 3 (.int .i64 0) 8 rfl Try.underlying22 info3 rfl (by decide) (by omega) (.slice Ao out.length co) out (an) [.int .i64 (an)] (fun _ => True) (fun _ => False) rfl rfl ?aP (fun _ hk => hk.elim) ?aF ?aO ?aB ?aS ?aL ?_; (case aP => exact rfl); (case aB => exact (by repeat (first | (with_reducible first | exact HB.out | apply zc | apply zb | apply zd) | exact HB.out))); (case aF => exact (fun _ _ => trivial)); (case aO => exact (by (with_reducible repeat (first | apply Kd.zn | apply Kd.zo | apply Kd.zq)); exact HO.out)); (case aS => exact (zp (by repeat (first | (with_reducible first | exact HB.out | apply zc | apply zb | apply zd) | exact HB.out)))); (case aL => have := HOL.out; omega); intro vq wq2 ho hb hg hat; have HB' := za.mk hb; have HO' := za.mk ho; clear HB HO; have HB := HB'; have HO := HO'; clear HB' HO' ho hb hg hat))
          have HT3 : za (brkGo k l0 cs js s' (p + 1) suf' = some t2 ∧ t = an :: t2) := ⟨HT2.out.1, by rw [HT2.out.2, HVA.out]⟩
          clear HT2
          have HT2 := HT3
          go_roundg (go - 1)
          case measure => have h1 := HK.out; simp at h1; omega
          case rel =>
           refine ⟨pre ++ [a], suf', out ++ [an], t2, s', rfl, ?_, ⟨by rw [HE.out]; simp⟩, ⟨by have h1 := HK.out; simp at h1; omega⟩, ⟨?_, ?_⟩, ⟨?_⟩, HO, HB⟩
           ·simp only [List.length_append, List.length_singleton]
            rw [Hp.out]
            rfl
           ·have h1 := HT2.out.1
            rw [List.length_append, List.length_singleton, Hp.out]
            exact h1
           ·rw [HT.out.2, HT2.out.2]
            simp
           ·have h1 := HOL0.out
            have h2 := Hp.out
            simp only [List.length_append, List.length_singleton]
            omega
         | false =>
          rw [if_neg (by decide)] at HV1
          have hj9 : jx ≠ 9 := fun h9 => by have h1 := HPR.out; rw [h9, HNINE.out] at h1; cases h1
          have HJ9 := za.mk hj9
          have HVA := za.mk HV1
          clear HV1 hj9
          go_wp2_with (first | (go_at_call 133; refine (HRLJ.out _ (by exact HB.out)).mono ?_; rintro e w7 ⟨rfl, hb7⟩; have HB' := za.mk (zg HB.out hb7); have HO' := za.mk (Kd.zba HO.out hb7); have hb' := ze hb7 hb; clear HB HO hb; have HB := HB'; have HO := HO'; have hb := hb'; clear HB' HO' hb' hb7))
          go_roundg (gk - 1)
          case measure => have h1 := HJ.out; have h2 := HJ9.out; omega
          case rel =>
           refine ⟨jx + 1, rfl, by go_num, ⟨by have h1 := HJ.out; have h2 := HJ9.out; omega, by have h1 := HJ.out; omega⟩, ⟨?_⟩, HO, HB, ⟨hb⟩⟩
           rw [HVA.out, show 10 - (jx + 1) = nn from by have := HNN.out; omega]
       | false =>
        rw [if_neg (by decide)] at hx2
        have HT2 : za (brkGo k l0 cs js s' (p + 1) suf' = some t2 ∧ t = 0 :: t2) := ⟨HT2'.out.1, by rw [HT2'.out.2, ← Option.some.inj hx2]⟩
        clear hx2 HT2'
        go_wp2_with (first | (go_at_call 117; refine (HRLN.out _).mono ?_; rintro e w5 ⟨rfl, hb5⟩; have HB' := za.mk (zg HB.out hb5); have HO' := za.mk (Kd.zba HO.out hb5); have hb' := ze hb5 hb; clear HB HO hb; have HB := HB'; have HO := HO'; have hb := hb'; clear HB' HO' hb' hb5) | (go_at_call 118; refine (HAS.out _).mono ?_; rintro e w6 ⟨rfl, hb6⟩; have HB' := za.mk (zg HB.out hb6); have HO' := za.mk (Kd.zba HO.out hb6); have hb' := ze hb6 hb; clear HB HO hb; have HB := HB'; have HO := HO'; have hb := hb'; clear HB' HO' hb' hb6) | ((with_reducible refine zra (b := .append) (xs := #[.tmp 56, .tmp 57]) rfl ?_); at_builtin; refine Kd.zza (Kd.int .i64) (w0 := w3) w3.heap.size rfl (.tmp 56) (.tmp 57) 22 3 (.int .i64 0) 8 rfl Try.underlying22 info3 rfl (by decide) (by omega) (.slice Ao out.length co) out (0) [.int .i64 (0)] (fun _ => True) (fun _ => False) rfl rfl ?aP (fun _ hk => hk.elim) ?aF ?aO ?aB ?aS ?aL ?_; (case aP => exact rfl); (case aB => exact (by repeat (first | (with_reducible first | exact HB.out | apply zc | apply zb | apply zd) | exact HB.out))); (case aF => exact (fun _ _ => trivial)); (case aO => exact (by (with_reducible repeat (first | apply Kd.zn | apply Kd.zo | apply Kd.zq)); exact HO.out)); (case aS => exact (zp (by repeat (first | (with_reducible first | exact HB.out | apply zc | apply zb | apply zd) | exact HB.out)))); (case aL => have := HOL.out; omega); intro vq wq2 ho hb hg hat; have HB' := za.mk hb; have HO' := za.mk ho; clear HB HO; have HB := HB'; have HO := HO'; clear HB' HO' ho hb hg hat))
        go_roundg (gk - 1)
        case measure => have h1 := HK.out; simp at h1; omega
        case rel =>
         refine ⟨pre ++ [a], suf', out ++ [0], t2, s', rfl, ?_, ⟨by rw [HE.out]; simp⟩, ⟨by have h1 := HK.out; simp at h1; omega⟩, ⟨?_, ?_⟩, ⟨?_⟩, HO, HB⟩
         ·simp only [List.length_append, List.length_singleton]
          rw [Hp.out]
          rfl
         ·have h1 := HT2.out.1
          rw [List.length_append, List.length_singleton, Hp.out]
          exact h1
         ·rw [HT.out.2, HT2.out.2]
          simp
         ·have h1 := HOL0.out
          have h2 := Hp.out
          simp only [List.length_append, List.length_singleton]
          omega
      ·have h7b : (t7 == 7) = false := beq_eq_false_iff_ne.mpr h7
       rw [if_neg h7] at hx2
       clear h7
       have HT2 : za (brkGo k l0 cs js s' (p + 1) suf' = some t2 ∧ t = verd a b s' :: t2) := ⟨HT2'.out.1, by rw [HT2'.out.2, ← Option.some.inj hx2]⟩
       clear HT2' hx2
       have HNINE : za (∀ a b s : Int, prd 9 a b s = true) := ⟨fun _ _ _ => rfl⟩
       go_wp2_with (first | (go_at_call 117; refine (HRLN.out _).mono ?_; rintro e w5 ⟨rfl, hb5⟩; have HB' := za.mk (zg HB.out hb5); have HO' := za.mk (Kd.zba HO.out hb5); have hb' := ze hb5 hb; clear HB HO hb; have HB := HB'; have HO := HO'; have hb := hb'; clear HB' HO' hb' hb5))
       obtain ⟨go, rfl⟩ : ∃ go : Nat, go = gk := ⟨_, rfl⟩
       clear hx hj hr
       go_loopg [6, 61] 10 (fun gg v6 v61 wq => ∃ jx : Nat, v6 = .slice Ao out.length co ∧ v61 = .int .i64 (jx : Int) ∧ za (jx ≤ 9 ∧ 10 - jx ≤ gg) ∧ za (verd a b s' = verdF a b s' (10 - jx) jx) ∧ za (Kd.R (Kd.int .i64) 3 wq w3.heap.size (fun _ => True) (.slice Ao out.length co) out) ∧ za (Below w3.heap.size w3 wq) ∧ za (wq.cell? ⟨adb.block, adb.off + (p + 1), none⟩ = some (.int .i64 b)))
       case atStart => exact ⟨0, rfl, rfl, ⟨by omega, by omega⟩, ⟨rfl⟩, HO, HB, ⟨hb⟩⟩
       case round =>
        clear HO HB hb
        obtain ⟨jx, rfl, rfl, HJ, HV, HO, HB, HCB⟩ := hrel
        have hb := HCB.out
        have hjz : (jx : Int) < 10 := by have := HJ.out.1; omega
        have hjn : jx < 10 := by have := HJ.out.1; omega
        have hrc := ze HB.out (HRC.out jx hjn)
        unfold ruleV at hrc
        have HRLJ := za.mk (fun W hW => HRL.out jx hjn a b s' W hW)
        obtain ⟨nn, hnn⟩ : ∃ nn, 10 - jx = nn + 1 := ⟨9 - jx, by omega⟩
        have HV1 := HV.out
        rw [hnn, verdF] at HV1
        have HNN := za.mk hnn
        clear hnn
        generalize hpr : prd jx a b s' = q at HRLJ HV1
        generalize ansL jx = an at HRLJ HV1
        have HPR := za.mk hpr
        clear hpr hjn
        generalize B jx = Bj at hrc HRLJ
        generalize C jx = Cj at hrc HRLJ
        cases q with
        | true =>
         rw [if_pos rfl] at HV1
         have HVA := za.mk HV1
         clear HV1
         go_wp2_with (first | (go_at_call 133; refine (HRLJ.out _ (by exact HB.out)).mono ?_; rintro e w7 ⟨rfl, hb7⟩; have HB' := za.mk (zg HB.out hb7); have HO' := za.mk (Kd.zba HO.out hb7); have hb' := ze hb7 hb; clear HB HO hb; have HB := HB'; have HO := HO'; have hb := hb'; clear HB' HO' hb' hb7) | ((with_reducible refine zra (b := .append) (xs := #[.tmp 79, .tmp 81]) rfl ?_); at_builtin; refine Kd.zza (Kd.int .i64) (w0 := w3) w3.heap.size rfl (.tmp 79) (.tmp 81) 22 3 (.int .i64 0) 8 rfl Try.underlying22 info3 rfl (by decide) (by omega) (.slice Ao out.length co) out (an) [.int .i64 (an)] (fun _ => True) (fun _ => False) rfl rfl ?aP (fun _ hk => hk.elim) ?aF ?aO ?aB ?aS ?aL ?_; (case aP => exact rfl); (case aB => exact (by repeat (first | (with_reducible first | exact HB.out | apply zc | apply zb | apply zd) | exact HB.out))); (case aF => exact (fun _ _ => trivial)); (case aO => exact (by (with_reducible repeat (first | apply Kd.zn | apply Kd.zo | apply Kd.zq)); exact HO.out)); (case aS => exact (zp (by repeat (first | (with_reducible first | exact HB.out | apply zc | apply zb | apply zd) | exact HB.out)))); (case aL => have := HOL.out; omega); intro vq wq2 ho hb hg hat; have HB' := za.mk hb; have HO' := za.mk ho; clear HB HO; have HB := HB'; have HO := HO'; clear HB' HO' ho hb hg hat))
         have HT3 : za (brkGo k l0 cs js s' (p + 1) suf' = some t2 ∧ t = an :: t2) := ⟨HT2.out.1, by rw [HT2.out.2, HVA.out]⟩
         clear HT2
         have HT2 := HT3
         go_roundg (go - 1)
         case measure => have h1 := HK.out; simp at h1; omega
         case rel =>
          refine ⟨pre ++ [a], suf', out ++ [an], t2, s', rfl, ?_, ⟨by rw [HE.out]; simp⟩, ⟨by have h1 := HK.out; simp at h1; omega⟩, ⟨?_, ?_⟩, ⟨?_⟩, HO, HB⟩
          ·simp only [List.length_append, List.length_singleton]
           rw [Hp.out]
           rfl
          ·have h1 := HT2.out.1
           rw [List.length_append, List.length_singleton, Hp.out]
           exact h1
          ·rw [HT.out.2, HT2.out.2]
           simp
          ·have h1 := HOL0.out
           have h2 := Hp.out
           simp only [List.length_append, List.length_singleton]
           omega
        | false =>
         rw [if_neg (by decide)] at HV1
         have hj9 : jx ≠ 9 := fun h9 => by have h1 := HPR.out; rw [h9, HNINE.out] at h1; cases h1
         have HJ9 := za.mk hj9
         have HVA := za.mk HV1
         clear HV1 hj9
         go_wp2_with (first | (go_at_call 133; refine (HRLJ.out _ (by exact HB.out)).mono ?_; rintro e w7 ⟨rfl, hb7⟩; have HB' := za.mk (zg HB.out hb7); have HO' := za.mk (Kd.zba HO.out hb7); have hb' := ze hb7 hb; clear HB HO hb; have HB := HB'; have HO := HO'; have hb := hb'; clear HB' HO' hb' hb7))
         go_roundg (gk - 1)
         case measure => have h1 := HJ.out; have h2 := HJ9.out; omega
         case rel =>
          refine ⟨jx + 1, rfl, by go_num, ⟨by have h1 := HJ.out; have h2 := HJ9.out; omega, by have h1 := HJ.out; omega⟩, ⟨?_⟩, HO, HB, ⟨hb⟩⟩
          rw [HVA.out, show 10 - (jx + 1) = nn from by have := HNN.out; omega]
   ·have c3b : (a != 3) = true := by simp [ha3]
    have Hs' : za (a = if a = 3 then s else a) := ⟨by rw [if_neg ha3]⟩
    clear ha3
    by_cases hlast : p + 1 = l0.length
    ·have hl1 : ((p : Int) == (l0.length : Int) - 1) = true := beq_iff_eq.mpr (by omega)
     have hl2 : ((p : Int) = (l0.length : Int) - 1) = True := eq_true (by omega)
     have hl3 : decide ((p : Int) = (l0.length : Int) - 1) = true := decide_eq_true (by omega)
     rw [if_pos hlast, ← Hs'.out] at HT1
     obtain ⟨t2, hg2, ht2⟩ := Option.bind_eq_some_iff.mp HT1
     have HT2 : za (brkGo k l0 cs js a (p + 1) suf' = some t2 ∧ t = 2 :: t2) := ⟨hg2, (Option.some.inj ht2).symm⟩
     clear HT1 hg2 ht2 hlast
     go_wp2_with (first | ((with_reducible refine zra (b := .append) (xs := #[.tmp 34, .tmp 35]) rfl ?_); at_builtin; refine Kd.zza (Kd.int .i64) (w0 := w3) w3.heap.size rfl (.tmp 34) (.tmp 35) 22 3 (.int .i64 0) 8 rfl Try.underlying22 info3 rfl (by decide) (by omega) (.slice Ao out.length co) out (2) [.int .i64 (2)] (fun _ => True) (fun _ => False) rfl rfl ?aP (fun _ hk => hk.elim) ?aF ?aO ?aB ?aS ?aL ?_; (case aP => exact rfl); (case aB => exact (by repeat (first | (with_reducible first | exact HB.out | apply zc | apply zb | apply zd) | exact HB.out))); (case aF => exact (fun _ _ => trivial)); (case aO => exact (by (with_reducible repeat (first | apply Kd.zn | apply Kd.zo | apply Kd.zq)); exact HO.out)); (case aS => exact (zp (by repeat (first | (with_reducible first | exact HB.out | apply zc | apply zb | apply zd) | exact HB.out)))); (case aL => have := HOL.out; omega); intro vq wq2 ho hb hg hat; have HB' := za.mk hb; have HO' := za.mk ho; clear HB HO; have HB := HB'; have HO := HO'; clear HB' HO' ho hb hg hat))
     go_roundg (gk - 1)
     case measure => have h1 := HK.out; simp at h1; omega
     case rel =>
      refine ⟨pre ++ [a], suf', out ++ [2], t2, a, rfl, ?_, ⟨by rw [HE.out]; simp⟩, ⟨by have h1 := HK.out; simp at h1; omega⟩, ⟨?_, ?_⟩, ⟨?_⟩, HO, HB⟩
      ·simp only [List.length_append, List.length_singleton]
       rw [Hp.out]
       rfl
      ·have h1 := HT2.out.1
       rw [List.length_append, List.length_singleton, Hp.out]
       exact h1
      ·rw [HT.out.2, HT2.out.2]
       simp
      ·have h1 := HOL0.out
       have h2 := Hp.out
       simp only [List.length_append, List.length_singleton]
       omega
    ·have hl1 : ((p : Int) == (l0.length : Int) - 1) = false := beq_eq_false_iff_ne.mpr (by omega)
     have hl2 : ((p : Int) = (l0.length : Int) - 1) = False := eq_false (by omega)
     have hl3 : decide ((p : Int) = (l0.length : Int) - 1) = false := decide_eq_false (by omega)
     rw [if_neg hlast, ← Hs'.out] at HT1
     obtain ⟨x, hx1, HT1'⟩ := Option.bind_eq_some_iff.mp HT1
     obtain ⟨t2, hg2, ht2⟩ := Option.bind_eq_some_iff.mp HT1'
     have HT2' : za (brkGo k l0 cs js a (p + 1) suf' = some t2 ∧ t = x :: t2) := ⟨hg2, (Option.some.inj ht2).symm⟩
     clear HT1 HT1' hg2 ht2
     have hp1 : (p : Int) + 1 < (l0.length : Int) := by have := HLEN.out; omega
     have hp2 : (p : Int) + 1 < (js.length : Int) := by have := HLEN.out; omega
     have hp3 : (p : Int) + 1 < (cs.length : Int) := by have := HLEN.out; omega
     clear hlast
     obtain ⟨adj, ej, hj⟩ := Kd.at_bool (Kd.zka HJJ3.out HB.out) ((p : Int) + 1) (by omega) hp2
     cases ej
     obtain ⟨adr, er, hr⟩ := Kd.zfa (Kd.zka HL0.out HB.out) ((p : Int) + 1) (by omega) hp1
     cases er
     obtain ⟨adb, eb, hb⟩ := Kd.zfa (Kd.zka HCC3.out HB.out) ((p : Int) + 1) (by omega) hp3
     have hadb : adb = ad := by injection eb with eb; exact eb.symm
     subst hadb
     clear eb
     have ht1 : ((p : Int) + 1).toNat = p + 1 := by omega
     have hrdj : rdOf false js ((p : Int) + 1) = js.getD (p + 1) false := by unfold rdOf; rw [ht1]
     have hrdr : rd l0 ((p : Int) + 1) = l0.getD (p + 1) 0 := by unfold rd; rw [ht1]
     have hrdb : rd cs ((p : Int) + 1) = cs.getD (p + 1) 0 := by unfold rd; rw [ht1]
     have hadd : ∀ ad : Addr, ad.add (p + 1) = ⟨ad.block, ad.off + (p + 1), none⟩ := fun ad => by unfold Addr.add; rw [if_neg (by omega)]
     rw [hrdj, ht1, hadd] at hj
     rw [hrdr, ht1, hadd] at hr
     rw [hrdb, ht1, hadd] at hb
     clear hrdj hrdr hrdb ht1 hadd
     generalize js.getD (p + 1) false = j at hj hx1
     generalize l0.getD (p + 1) 0 = rr at hr hx1
     generalize cs.getD (p + 1) 0 = b at hb hx1
     unfold brk1 at hx1
     cases j with
     | true =>
      rw [if_pos rfl] at hx1
      have HT2 : za (brkGo k l0 cs js a (p + 1) suf' = some t2 ∧ t = 0 :: t2) := ⟨HT2'.out.1, by rw [HT2'.out.2, ← Option.some.inj hx1]⟩
      clear hx1 HT2'
      go_wp2_with (first | ((with_reducible refine zra (b := .append) (xs := #[.tmp 56, .tmp 57]) rfl ?_); at_builtin; refine Kd.zza (Kd.int .i64) (w0 := w3) w3.heap.size rfl (.tmp 56) (.tmp 57) 22 3 (.int .i64 0) 8 rfl Try.underlying22 info3 rfl (by decide) (by omega) (.slice Ao out.length co) out (0) [.int .i64 (0)] (fun _ => True) (fun _ => False) rfl rfl ?aP (fun _ hk => hk.elim) ?aF ?aO ?aB ?aS ?aL ?_; (case aP => exact rfl); (case aB => exact (by repeat (first | (with_reducible first | exact HB.out | apply zc | apply zb | apply zd) | exact HB.out))); (case aF => exact (fun _ _ => trivial)); (case aO => exact (by (with_reducible repeat (first | apply Kd.zn | apply Kd.zo | apply Kd.zq)); exact HO.out)); (case aS => exact (zp (by repeat (first | (with_reducible first | exact HB.out | apply zc | apply zb | apply zd) | exact HB.out)))); (case aL => have := HOL.out; omega); intro vq wq2 ho hb hg hat; have HB' := za.mk hb; have HO' := za.mk ho; clear HB HO; have HB := HB'; have HO := HO'; clear HB' HO' ho hb hg hat))
      go_roundg (gk - 1)
      case measure => have h1 := HK.out; simp at h1; omega
      case rel =>
       refine ⟨pre ++ [a], suf', out ++ [0], t2, a, rfl, ?_, ⟨by rw [HE.out]; simp⟩, ⟨by have h1 := HK.out; simp at h1; omega⟩, ⟨?_, ?_⟩, ⟨?_⟩, HO, HB⟩
       ·simp only [List.length_append, List.length_singleton]
        rw [Hp.out]
        rfl
       ·have h1 := HT2.out.1
        rw [List.length_append, List.length_singleton, Hp.out]
        exact h1
       ·rw [HT.out.2, HT2.out.2]
        simp
       ·have h1 := HOL0.out
        have h2 := Hp.out
        simp only [List.length_append, List.length_singleton]
        omega
     | false =>
      rw [if_neg (by decide)] at hx1
      obtain ⟨t7, ht7, hx2⟩ := Option.bind_eq_some_iff.mp hx1
      have HRLN := za.mk (fun W => impl_RuneLine.calls k rr t7 W ht7)
      clear ht7 hx1
      by_cases h7 : t7 = 7
      ·have h7b : (t7 == 7) = true := beq_iff_eq.mpr h7
       rw [if_pos h7] at hx2
       obtain ⟨uu, huu, hx3⟩ := Option.bind_eq_some_iff.mp hx2
       clear hx2
       have hx2 := hx3
       clear hx3 h7
       have HAS := za.mk (fun W => impl_afterSpace.calls k a uu W huu)
       clear huu
       cases uu with
       | true =>
        rw [if_pos rfl] at hx2
        have HT2 : za (brkGo k l0 cs js a (p + 1) suf' = some t2 ∧ t = verd a b a :: t2) := ⟨HT2'.out.1, by rw [HT2'.out.2, ← Option.some.inj hx2]⟩
        clear HT2' hx2
        have HNINE : za (∀ a b s : Int, prd 9 a b s = true) := ⟨fun _ _ _ => rfl⟩
        go_wp2_with (first | (go_at_call 117; refine (HRLN.out _).mono ?_; rintro e w5 ⟨rfl, hb5⟩; have HB' := za.mk (zg HB.out hb5); have HO' := za.mk (Kd.zba HO.out hb5); have hb' := ze hb5 hb; clear HB HO hb; have HB := HB'; have HO := HO'; have hb := hb'; clear HB' HO' hb' hb5) | (go_at_call 118; refine (HAS.out _).mono ?_; rintro e w6 ⟨rfl, hb6⟩; have HB' := za.mk (zg HB.out hb6); have HO' := za.mk (Kd.zba HO.out hb6); have hb' := ze hb6 hb; clear HB HO hb; have HB := HB'; have HO := HO'; have hb := hb'; clear HB' HO' hb' hb6))
        obtain ⟨go, rfl⟩ : ∃ go : Nat, go = gk := ⟨_, rfl⟩
        clear hx hj hr
        go_loopg [6, 61] 10 (fun gg v6 v61 wq => ∃ jx : Nat, v6 = .slice Ao out.length co ∧ v61 = .int .i64 (jx : Int) ∧ za (jx ≤ 9 ∧ 10 - jx ≤ gg) ∧ za (verd a b a = verdF a b a (10 - jx) jx) ∧ za (Kd.R (Kd.int .i64) 3 wq w3.heap.size (fun _ => True) (.slice Ao out.length co) out) ∧ za (Below w3.heap.size w3 wq) ∧ za (wq.cell? ⟨adb.block, adb.off + (p + 1), none⟩ = some (.int .i64 b)))
        case atStart => exact ⟨0, rfl, rfl, ⟨by omega, by omega⟩, ⟨rfl⟩, HO, HB, ⟨hb⟩⟩
        case round =>
         clear HO HB hb
         obtain ⟨jx, rfl, rfl, HJ, HV, HO, HB, HCB⟩ := hrel
         have hb := HCB.out
         have hjz : (jx : Int) < 10 := by have := HJ.out.1; omega
         have hjn : jx < 10 := by have := HJ.out.1; omega
         have hrc := ze HB.out (HRC.out jx hjn)
         unfold ruleV at hrc
         have HRLJ := za.mk (fun W hW => HRL.out jx hjn a b a W hW)
         obtain ⟨nn, hnn⟩ : ∃ nn, 10 - jx = nn + 1 := ⟨9 - jx, by omega⟩
         have HV1 := HV.out
         rw [hnn, verdF] at HV1
         have HNN := za.mk hnn
         clear hnn
         generalize hpr : prd jx a b a = q at HRLJ HV1
         generalize ansL jx = an at HRLJ HV1
         have HPR := za.mk hpr
         clear hpr hjn
         generalize B jx = Bj at hrc HRLJ
         generalize C jx = Cj at hrc HRLJ
         cases q with
         | true =>
          rw [if_pos rfl] at HV1
          have HVA := za.mk HV1
          clear HV1
          go_wp2_with (first | (go_at_call 133; refine (HRLJ.out _ (by exact HB.out)).mono ?_; rintro e w7 ⟨rfl, hb7⟩; have HB' := za.mk (zg HB.out hb7); have HO' := za.mk (Kd.zba HO.out hb7); have hb' := ze hb7 hb; clear HB HO hb; have HB := HB'; have HO := HO'; have hb := hb'; clear HB' HO' hb' hb7) | ((with_reducible refine zra (b := .append) (xs := #[.tmp 79, .tmp 81]) rfl ?_); at_builtin; refine Kd.zza (Kd.int .i64) (w0 := w3) w3.heap.size rfl (.tmp 79) (.tmp 81) 22 3 (.int .i64 0) 8 rfl Try.underlying22 info3 rfl (by decide) (by omega) (.slice Ao out.length co) out (an) [.int .i64 (an)] (fun _ => True) (fun _ => False) rfl rfl ?aP (fun _ hk => hk.elim) ?aF ?aO ?aB ?aS ?aL ?_; (case aP => exact rfl); (case aB => exact (by repeat (first | (with_reducible first | exact HB.out | apply zc | apply zb | apply zd) | exact HB.out))); (case aF => exact (fun _ _ => trivial)); (case aO => exact (by (with_reducible repeat (first | apply Kd.zn | apply Kd.zo | apply Kd.zq)); exact HO.out)); (case aS => exact (zp (by repeat (first | (with_reducible first | exact HB.out | apply zc | apply zb | apply zd) | exact HB.out)))); (case aL => have := HOL.out; omega); intro vq wq2 ho hb hg hat; have HB' := za.mk hb; have HO' := za.mk ho; clear HB HO; have HB := HB'; have HO := HO'; clear HB' HO' ho hb hg hat))
          have HT3 : za (brkGo k l0 cs js a (p + 1) suf' = some t2 ∧ t = an :: t2) := ⟨HT2.out.1, by rw [HT2.out.2, HVA.out]⟩
          clear HT2
          have HT2 := HT3
          go_roundg (go - 1)
          case measure => have h1 := HK.out; simp at h1; omega
          case rel =>
           refine ⟨pre ++ [a], suf', out ++ [an], t2, a, rfl, ?_, ⟨by rw [HE.out]; simp⟩, ⟨by have h1 := HK.out; simp at h1; omega⟩, ⟨?_, ?_⟩, ⟨?_⟩, HO, HB⟩
           ·simp only [List.length_append, List.length_singleton]
            rw [Hp.out]
            rfl
           ·have h1 := HT2.out.1
            rw [List.length_append, List.length_singleton, Hp.out]
            exact h1
           ·rw [HT.out.2, HT2.out.2]
            simp
           ·have h1 := HOL0.out
            have h2 := Hp.out
            simp only [List.length_append, List.length_singleton]
            omega
         | false =>
          rw [if_neg (by decide)] at HV1
          have hj9 : jx ≠ 9 := fun h9 => by have h1 := HPR.out; rw [h9, HNINE.out] at h1; cases h1
          have HJ9 := za.mk hj9
          have HVA := za.mk HV1
          clear HV1 hj9
          go_wp2_with (first | (go_at_call 133; refine (HRLJ.out _ (by exact HB.out)).mono ?_; rintro e w7 ⟨rfl, hb7⟩; have HB' := za.mk (zg HB.out hb7); have HO' := za.mk (Kd.zba HO.out hb7); have hb' := ze hb7 hb; clear HB HO hb; have HB := HB'; have HO := HO'; have hb := hb'; clear HB' HO' hb' hb7))
          go_roundg (gk - 1)
          case measure => have h1 := HJ.out; have h2 := HJ9.out; omega
          case rel =>
           refine ⟨jx + 1, rfl, by go_num, ⟨by have h1 := HJ.out; have h2 := HJ9.out; omega, by have h1 := HJ.out; omega⟩, ⟨?_⟩, HO, HB, ⟨hb⟩⟩
           rw [HVA.out, show 10 - (jx + 1) = nn from by have := HNN.out; omega]
       | false =>
        rw [if_neg (by decide)] at hx2
        have HT2 : za (brkGo k l0 cs js a (p + 1) suf' = some t2 ∧ t = 0 :: t2) := ⟨HT2'.out.1, by rw [HT2'.out.2, ← Option.some.inj hx2]⟩
        clear hx2 HT2'
        go_wp2_with (first | (go_at_call 117; refine (HRLN.out _).mono ?_; rintro e w5 ⟨rfl, hb5⟩; have HB' := za.mk (zg HB.out hb5); have HO' := za.mk (Kd.zba HO.out hb5); have hb' := ze hb5 hb; clear HB HO hb; have HB := HB'; have HO := HO'; have hb := hb'; clear HB' HO' hb' hb5) | (go_at_call 118; refine (HAS.out _).mono ?_; rintro e w6 ⟨rfl, hb6⟩; have HB' := za.mk (zg HB.out hb6); have HO' := za.mk (Kd.zba HO.out hb6); have hb' := ze hb6 hb; clear HB HO hb; have HB := HB'; have HO := HO'; have hb := hb'; clear HB' HO' hb' hb6) | ((with_reducible refine zra (b := .append) (xs := #[.tmp 56, .tmp 57]) rfl ?_); at_builtin; refine Kd.zza (Kd.int .i64) (w0 := w3) w3.heap.size rfl (.tmp 56) (.tmp 57) 22 3 (.int .i64 0) 8 rfl Try.underlying22 info3 rfl (by decide) (by omega) (.slice Ao out.length co) out (0) [.int .i64 (0)] (fun _ => True) (fun _ => False) rfl rfl ?aP (fun _ hk => hk.elim) ?aF ?aO ?aB ?aS ?aL ?_; (case aP => exact rfl); (case aB => exact (by repeat (first | (with_reducible first | exact HB.out | apply zc | apply zb | apply zd) | exact HB.out))); (case aF => exact (fun _ _ => trivial)); (case aO => exact (by (with_reducible repeat (first | apply Kd.zn | apply Kd.zo | apply Kd.zq)); exact HO.out)); (case aS => exact (zp (by repeat (first | (with_reducible first | exact HB.out | apply zc | apply zb | apply zd) | exact HB.out)))); (case aL => have := HOL.out; omega); intro vq wq2 ho hb hg hat; have HB' := za.mk hb; have HO' := za.mk ho; clear HB HO; have HB := HB'; have HO := HO'; clear HB' HO' ho hb hg hat))
        go_roundg (gk - 1)
        case measure => have h1 := HK.out; simp at h1; omega
        case rel =>
         refine ⟨pre ++ [a], suf', out ++ [0], t2, a, rfl, ?_, ⟨by rw [HE.out]; simp⟩, ⟨by have h1 := HK.out; simp at h1; omega⟩, ⟨?_, ?_⟩, ⟨?_⟩, HO, HB⟩
         ·simp only [List.length_append, List.length_singleton]
          rw [Hp.out]
          rfl
         ·have h1 := HT2.out.1
          rw [List.length_append, List.length_singleton, Hp.out]
          exact h1
         ·rw [HT.out.2, HT2.out.2]
          simp
         ·have h1 := HOL0.out
          have h2 := Hp.out
          simp only [List.length_append, List.length_singleton]
          omega
      ·have h7b : (t7 == 7) = false := beq_eq_false_iff_ne.mpr h7
       rw [if_neg h7] at hx2
       clear h7
       have HT2 : za (brkGo k l0 cs js a (p + 1) suf' = some t2 ∧ t = verd a b a :: t2) := ⟨HT2'.out.1, by rw [HT2'.out.2, ← Option.some.inj hx2]⟩
       clear HT2' hx2
       have HNINE : za (∀ a b s : Int, prd 9 a b s = true) := ⟨fun _ _ _ => rfl⟩
       go_wp2_with (first | (go_at_call 117; refine (HRLN.out _).mono ?_; rintro e w5 ⟨rfl, hb5⟩; have HB' := za.mk (zg HB.out hb5); have HO' := za.mk (Kd.zba HO.out hb5); have hb' := ze hb5 hb; clear HB HO hb; have HB := HB'; have HO := HO'; have hb := hb'; clear HB' HO' hb' hb5))
       obtain ⟨go, rfl⟩ : ∃ go : Nat, go = gk := ⟨_, rfl⟩
       clear hx hj hr
       go_loopg [6, 61] 10 (fun gg v6 v61 wq => ∃ jx : Nat, v6 = .slice Ao out.length co ∧ v61 = .int .i64 (jx : Int) ∧ za (jx ≤ 9 ∧ 10 - jx ≤ gg) ∧ za (verd a b a = verdF a b a (10 - jx) jx) ∧ za (Kd.R (Kd.int .i64) 3 wq w3.heap.size (fun _ => True) (.slice Ao out.length co) out) ∧ za (Below w3.heap.size w3 wq) ∧ za (wq.cell? ⟨adb.block, adb.off + (p + 1), none⟩ = some (.int .i64 b)))
       case atStart => exact ⟨0, rfl, rfl, ⟨by omega, by omega⟩, ⟨rfl⟩, HO, HB, ⟨hb⟩⟩
       case round =>
        clear HO HB hb
        obtain ⟨jx, rfl, rfl, HJ, HV, HO, HB, HCB⟩ := hrel
        have hb := HCB.out
        have hjz : (jx : Int) < 10 := by have := HJ.out.1; omega
        have hjn : jx < 10 := by have := HJ.out.1; omega
        have hrc := ze HB.out (HRC.out jx hjn)
        unfold ruleV at hrc
        have HRLJ := za.mk (fun W hW => HRL.out jx hjn a b a W hW)
        obtain ⟨nn, hnn⟩ : ∃ nn, 10 - jx = nn + 1 := ⟨9 - jx, by omega⟩
        have HV1 := HV.out
        rw [hnn, verdF] at HV1
        have HNN := za.mk hnn
        clear hnn
        generalize hpr : prd jx a b a = q at HRLJ HV1
        generalize ansL jx = an at HRLJ HV1
        have HPR := za.mk hpr
        clear hpr hjn
        generalize B jx = Bj at hrc HRLJ
        generalize C jx = Cj at hrc HRLJ
        cases q with
        | true =>
         rw [if_pos rfl] at HV1
         have HVA := za.mk HV1
         clear HV1
         go_wp2_with (first | (go_at_call 133; refine (HRLJ.out _ (by exact HB.out)).mono ?_; rintro e w7 ⟨rfl, hb7⟩; have HB' := za.mk (zg HB.out hb7); have HO' := za.mk (Kd.zba HO.out hb7); have hb' := ze hb7 hb; clear HB HO hb; have HB := HB'; have HO := HO'; have hb := hb'; clear HB' HO' hb' hb7) | ((with_reducible refine zra (b := .append) (xs := #[.tmp 79, .tmp 81]) rfl ?_); at_builtin; refine Kd.zza (Kd.int .i64) (w0 := w3) w3.heap.size rfl (.tmp 79) (.tmp 81) 22 3 (.int .i64 0) 8 rfl Try.underlying22 info3 rfl (by decide) (by omega) (.slice Ao out.length co) out (an) [.int .i64 (an)] (fun _ => True) (fun _ => False) rfl rfl ?aP (fun _ hk => hk.elim) ?aF ?aO ?aB ?aS ?aL ?_; (case aP => exact rfl); (case aB => exact (by repeat (first | (with_reducible first | exact HB.out | apply zc | apply zb | apply zd) | exact HB.out))); (case aF => exact (fun _ _ => trivial)); (case aO => exact (by (with_reducible repeat (first | apply Kd.zn | apply Kd.zo | apply Kd.zq)); exact HO.out)); (case aS => exact (zp (by repeat (first | (with_reducible first | exact HB.out | apply zc | apply zb | apply zd) | exact HB.out)))); (case aL => have := HOL.out; omega); intro vq wq2 ho hb hg hat; have HB' := za.mk hb; have HO' := za.mk ho; clear HB HO; have HB := HB'; have HO := HO'; clear HB' HO' ho hb hg hat))
         have HT3 : za (brkGo k l0 cs js a (p + 1) suf' = some t2 ∧ t = an :: t2) := ⟨HT2.out.1, by rw [HT2.out.2, HVA.out]⟩
         clear HT2
         have HT2 := HT3
         go_roundg (go - 1)
         case measure => have h1 := HK.out; simp at h1; omega
         case rel =>
          refine ⟨pre ++ [a], suf', out ++ [an], t2, a, rfl, ?_, ⟨by rw [HE.out]; simp⟩, ⟨by have h1 := HK.out; simp at h1; omega⟩, ⟨?_, ?_⟩, ⟨?_⟩, HO, HB⟩
          ·simp only [List.length_append, List.length_singleton]
           rw [Hp.out]
           rfl
          ·have h1 := HT2.out.1
           rw [List.length_append, List.length_singleton, Hp.out]
           exact h1
          ·rw [HT.out.2, HT2.out.2]
           simp
          ·have h1 := HOL0.out
           have h2 := Hp.out
           simp only [List.length_append, List.length_singleton]
           omega
        | false =>
         rw [if_neg (by decide)] at HV1
         have hj9 : jx ≠ 9 := fun h9 => by have h1 := HPR.out; rw [h9, HNINE.out] at h1; cases h1
         have HJ9 := za.mk hj9
         have HVA := za.mk HV1
         clear HV1 hj9
         go_wp2_with (first | (go_at_call 133; refine (HRLJ.out _ (by exact HB.out)).mono ?_; rintro e w7 ⟨rfl, hb7⟩; have HB' := za.mk (zg HB.out hb7); have HO' := za.mk (Kd.zba HO.out hb7); have hb' := ze hb7 hb; clear HB HO hb; have HB := HB'; have HO := HO'; have hb := hb'; clear HB' HO' hb' hb7))
         go_roundg (gk - 1)
         case measure => have h1 := HJ.out; have h2 := HJ9.out; omega
         case rel =>
          refine ⟨jx + 1, rfl, by go_num, ⟨by have h1 := HJ.out; have h2 := HJ9.out; omega, by have h1 := HJ.out; omega⟩, ⟨?_⟩, HO, HB, ⟨hb⟩⟩
          rw [HVA.out, show 10 - (jx + 1) = nn from by have := HNN.out; omega]
  ·have hltz : ¬ (p : Int) < (cs.length : Int) := by omega
   go_wp2
   go_ret
   have h0 : suf = [] := by
    have h1 := congrArg List.length HE.out
    have h2 := Hp.out
    simp at h1
    exact List.eq_nil_of_length_eq_zero (by omega)
   subst h0
   have h1 := HT.out.1
   rw [brkGo] at h1
   have h2 := HT.out.2
   rw [← Option.some.inj h1, List.append_nil] at h2
   rw [h2]
   exact ⟨_, rfl, Kd.zqa HO.out HW3.out.size, below_weaken HW3.out HW3.out.size HB.out⟩
end Go.Proofs.Ytmjhdgofepdgkaa.PFnExactFillCost
