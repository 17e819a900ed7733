/- What functions of Go's library do, by hand. -/
import Derived.Test.YthdomhdippmaiaaChecked
import Derived.Test.YthdomhdippmaiaaAbH
namespace Go.Ovl
open Go Go.Ab Go.Proofs Go.RowKit Go.Lib
set_option maxHeartbeats 4000000
set_option maxRecDepth 100000
theorem n3u' (w : World) (v : Int) : Calls Try.prog 152 #[.slice none 0 0, .int .i64 v] w fun e w' => e = .returned (.int .i64 (-1)) ∧ w' = w := by
  go_enter Try.func152, Try.ntmps152
  go_wp2
  refine wp_loop_rounds 1 ?_
  rw [rounds_succ]
  go_wp2
  go_ret
  exact ⟨rfl, rfl⟩
theorem n20' (w : World) (b : Nat) (c : Nat) (x v : Int) (h0 : w.cell? ⟨b, 0, none⟩ = some (.int .i64 x)) : Calls Try.prog 152 #[.slice (some ⟨b, 0, none⟩) 1 c, .int .i64 v] w fun e w' => e = .returned (.int .i64 (bif v == x then 0 else -1)) ∧ w' = w := by
  go_enter Try.func152, Try.ntmps152
  go_wp2
  refine wp_loop_rounds 2 ?_
  rw [rounds_succ]
  go_wp2
  · rename_i h
    go_ret
    exact ⟨by rw [h]; rfl, rfl⟩
  · rename_i h
    rw [rounds_succ]
    go_wp2
    go_ret
    exact ⟨by rw [h]; rfl, rfl⟩
theorem n3s' (w : World) (b : Nat) (c : Nat) (x y v : Int) (h0 : w.cell? ⟨b, 0, none⟩ = some (.int .i64 x)) (h1 : w.cell? ⟨b, 1, none⟩ = some (.int .i64 y)) : Calls Try.prog 152 #[.slice (some ⟨b, 0, none⟩) 2 c, .int .i64 v] w fun e w' => e = .returned (.int .i64 (bif v == x then 0 else bif v == y then 1 else -1)) ∧ w' = w := by
  go_enter Try.func152, Try.ntmps152
  go_wp2
  refine wp_loop_rounds 3 ?_
  rw [rounds_succ]
  go_wp2
  · rename_i h
    go_ret
    exact ⟨by rw [h]; rfl, rfl⟩
  · rename_i h
    rw [rounds_succ]
    go_wp2
    · rename_i h'
      go_ret
      exact ⟨by rw [h, h']; rfl, rfl⟩
    · rename_i h'
      rw [rounds_succ]
      go_wp2
      go_ret
      exact ⟨by rw [h, h']; rfl, rfl⟩
theorem n3l' (w : World) (v : Int) : Calls Try.prog 148 #[.slice none 0 0, .int .i64 v] w fun e w' => e = .returned (.bool false) ∧ w' = w := by
  go_enter Try.func148, Try.ntmps148
  go_wp2_with (go_at_call 152; refine (n3u' _ _).mono ?_; rintro e w' ⟨rfl, rfl⟩)
  go_ret
  exact ⟨rfl, rfl⟩
theorem nx3' (w : World) (b : Nat) (c : Nat) (x v : Int) (h0 : w.cell? ⟨b, 0, none⟩ = some (.int .i64 x)) : Calls Try.prog 148 #[.slice (some ⟨b, 0, none⟩) 1 c, .int .i64 v] w fun e w' => e = .returned (.bool (v == x)) ∧ w' = w := by
  go_enter Try.func148, Try.ntmps148
  go_wp2_with (go_at_call 152; refine (n20' _ _ _ _ _ h0).mono ?_; rintro e w' ⟨rfl, rfl⟩)
  go_ret
  exact ⟨by cases v == x <;> rfl, rfl⟩
theorem nsj' (w : World) (b : Nat) (c : Nat) (x y v : Int) (h0 : w.cell? ⟨b, 0, none⟩ = some (.int .i64 x)) (h1 : w.cell? ⟨b, 1, none⟩ = some (.int .i64 y)) : Calls Try.prog 148 #[.slice (some ⟨b, 0, none⟩) 2 c, .int .i64 v] w fun e w' => e = .returned (.bool (v == x || v == y)) ∧ w' = w := by
  go_enter Try.func148, Try.ntmps148
  go_wp2_with (go_at_call 152; refine (n3s' _ _ _ _ _ _ h0 h1).mono ?_; rintro e w' ⟨rfl, rfl⟩)
  go_ret
  exact ⟨by cases v == x <;> cases v == y <;> rfl, rfl⟩
theorem nz1' (w : World) (x y : Int) : Calls Try.prog 136 #[.int .i64 x, .int .i64 y] w fun e w' => e = .returned (.bool (edgeB x y)) ∧ Below w.heap.size w w' := by
  have hmm := @run_makeMap Try.prog
  have m1 := Try.underlying200
  have m2 := Try.underlying3
  have h0 := EM.made 3 w
  go_enter Try.func136, Try.ntmps136
  go_wp2
  obtain ⟨W1, r1, h1⟩ := EM.ins m1 m2 h0 0 #[.int .i64 1] rfl
  rw [show (w.alloc (.map #[] 0)).heap.size = w.heap.size + 1 by simp] at r1
  erw [r1]
  simp only [Result.andThen]
  rw [Oper.upon_skip]
  go_wp2
  obtain ⟨W2, r2, h2⟩ := EM.ins m1 m2 h1 1 #[.int .i64 0, .int .i64 2] rfl
  erw [r2]
  simp only [Result.andThen]
  rw [Oper.upon_skip]
  go_wp2
  obtain ⟨W3, r3, h3⟩ := EM.ins m1 m2 h2 2 #[.int .i64 0, .int .i64 3] rfl
  erw [r3]
  simp only [Result.andThen]
  rw [Oper.upon_skip]
  go_wp2
  obtain ⟨W4, r4, h4⟩ := EM.ins m1 m2 h3 3 #[.int .i64 2, .int .i64 4] rfl
  erw [r4]
  simp only [Result.andThen]
  rw [Oper.upon_skip]
  go_wp2
  obtain ⟨W5, r5, h5⟩ := EM.ins m1 m2 h4 4 #[.int .i64 2] rfl
  erw [r5]
  simp only [Result.andThen]
  rw [Oper.upon_skip]
  go_wp2
  rw [EM.look m1 m2 (z := .slice none 0 0) (by kernel_rfl) h5 x]
  simp only [Result.andThen]
  rw [Oper.upon_value]
  simp only [List.nil_append, List.cons_append, lookP]
  cases e0 : x == 0 with
  | true =>
    simp only [cond_true, orZ, Pr.val]
    go_wp2_with (go_at_call 148; refine (nx3' _ _ _ _ _ (h5.cell (p := ⟨0, _, #[.int .i64 1]⟩) (by simp) rfl)).mono ?_; rintro e w' ⟨rfl, rfl⟩)
    go_ret
    exact ⟨by unfold edgeB; rw [e0]; rfl, h5.below⟩
  | false =>
    simp only [cond_false]
    cases e1 : x == 1 with
    | true =>
      simp only [cond_true, orZ, Pr.val]
      go_wp2_with (go_at_call 148; refine (nsj' _ _ _ _ _ _ (h5.cell (p := ⟨1, _, #[.int .i64 0, .int .i64 2]⟩) (i := 0) (by simp) rfl) (h5.cell (p := ⟨1, _, #[.int .i64 0, .int .i64 2]⟩) (i := 1) (by simp) rfl)).mono ?_; rintro e w' ⟨rfl, rfl⟩)
      go_ret
      exact ⟨by unfold edgeB; rw [e0, e1]; rfl, h5.below⟩
    | false =>
      simp only [cond_false]
      cases e2 : x == 2 with
      | true =>
        simp only [cond_true, orZ, Pr.val]
        go_wp2_with (go_at_call 148; refine (nsj' _ _ _ _ _ _ (h5.cell (p := ⟨2, _, #[.int .i64 0, .int .i64 3]⟩) (i := 0) (by simp) rfl) (h5.cell (p := ⟨2, _, #[.int .i64 0, .int .i64 3]⟩) (i := 1) (by simp) rfl)).mono ?_; rintro e w' ⟨rfl, rfl⟩)
        go_ret
        exact ⟨by unfold edgeB; rw [e0, e1, e2]; rfl, h5.below⟩
      | false =>
        simp only [cond_false]
        cases e3 : x == 3 with
        | true =>
          simp only [cond_true, orZ, Pr.val]
          go_wp2_with (go_at_call 148; refine (nsj' _ _ _ _ _ _ (h5.cell (p := ⟨3, _, #[.int .i64 2, .int .i64 4]⟩) (i := 0) (by simp) rfl) (h5.cell (p := ⟨3, _, #[.int .i64 2, .int .i64 4]⟩) (i := 1) (by simp) rfl)).mono ?_; rintro e w' ⟨rfl, rfl⟩)
          go_ret
          exact ⟨by unfold edgeB; rw [e0, e1, e2, e3]; rfl, h5.below⟩
        | false =>
          simp only [cond_false]
          cases e4 : x == 4 with
          | true =>
            simp only [cond_true, orZ, Pr.val]
            go_wp2_with (go_at_call 148; refine (nx3' _ _ _ _ _ (h5.cell (p := ⟨4, _, #[.int .i64 2]⟩) (by simp) rfl)).mono ?_; rintro e w' ⟨rfl, rfl⟩)
            go_ret
            exact ⟨by unfold edgeB; rw [e0, e1, e2, e3, e4]; rfl, h5.below⟩
          | false =>
            simp only [cond_false, orZ]
            go_wp2_with (go_at_call 148; refine (n3l' _ _).mono ?_; rintro e w' ⟨rfl, rfl⟩)
            go_ret
            exact ⟨by unfold edgeB; rw [e0, e1, e2, e3, e4]; rfl, h5.below⟩
theorem nqf' (w : World) (b n c m vb vc : Nat) (vs : List Value) (curA : Array Value) (hm : 0 < m) (hroom : n + m ≤ c)
    (hg : w.heap[b]? = some (.cells curA 98 (0, 0))) (hsz : curA.size = c * 5) (hvl : vs.length = m * 5) (hvs : ∀ j v, vs[j]? = some v → w.cell? ⟨vb, j, none⟩ = some v) (h1v : ∀ v ∈ vs, v.oneCell' = true) :
    Calls Try.prog 121 #[.slice (some ⟨b, 0, none⟩) n c, .int .i64 n, .slice (some ⟨vb, 0, none⟩) m vc] w fun e w' =>
      e = .returned (.slice (some ⟨b, 0, none⟩) (n + m) c) ∧ w' = w.setRow b (curA.toList.take (n * 5) ++ vs ++ curA.toList.drop (n * 5 + vs.length)).toArray := by
  have hz1 : ¬ ((m : Int) = 0) := by omega
  have hr : ∀ ty, (Builtin.append_ #[26, 26] ty #[.slice (some ⟨b, 0, none⟩) n c, .slice (some ⟨vb, 0, none⟩) m vc]).run Try.prog w = .ok (.slice (some ⟨b, 0, none⟩) (n + m) c) (w.setRow b (curA.toList.take (n * 5) ++ vs ++ curA.toList.drop (n * 5 + vs.length)).toArray) := fun ty =>
    run_append_room w 26 ty 98 Try.t98 Try.underlying26 (by kernel_rfl) b n c curA hg ⟨vb, 0, none⟩ m vc vs hvl (fun j u hj => by rw [Addr.add_lit, Nat.zero_add]; exact hvs j u hj) h1v hroom (by rw [hvl, hsz]; show n * 5 + m * 5 ≤ c * 5; omega)
  clear hg hsz hvl hvs h1v
  generalize w.setRow b (curA.toList.take (n * 5) ++ vs ++ curA.toList.drop (n * 5 + vs.length)).toArray = W at hr ⊢
  go_enter Try.func121, Try.ntmps121
  go_wp2_with (at_builtin; refine Lib.wpList_append_run _ rfl _ _ _ _ rfl _ _ rfl rfl _ _ (hr _) ?_)
  go_ret
  exact ⟨rfl, rfl⟩
theorem nuh' (w : World) (b n c i m vb vc : Nat) (vs xs : List Value) (curA A1 A2 : Array Value) (hi : i < n) (hm : 0 < m) (hroom : n + m ≤ c) (hc63 : c ≤ 9223372036854775807) (hvb : vb ≠ b)
    (hg : w.heap[b]? = some (.cells curA 98 (0, 0))) (hsz : curA.size = c * 5) (hxl : xs.length = n * 5) (hxs : curA.toList.take (n * 5) = xs) (hvl : vs.length = m * 5) (hvs : ∀ j v, vs[j]? = some v → w.cell? ⟨vb, j, none⟩ = some v) (h1c : ∀ v ∈ xs, v.oneCell' = true) (h1v : ∀ v ∈ vs, v.oneCell' = true)
    (hA1 : A1 = (curA.toList.take ((i + m) * 5) ++ xs.drop (i * 5) ++ curA.toList.drop ((i + m) * 5 + (xs.drop (i * 5)).length)).toArray) (hA2 : A2 = (A1.toList.take (i * 5) ++ vs ++ A1.toList.drop (i * 5 + vs.length)).toArray)
    (tA tB : TypeId) (kA kB : Nat) (hsa : w.shape? vb = some (tA, kA)) (hsb : w.shape? b = some (tB, kB)) (hkB : kB ≠ 0) (hfa : w.frozen? ⟨vb, 0, none⟩ = false) (hfe : w.frozen? ⟨vb, kA, none⟩ = false) :
    Calls Try.prog 121 #[.slice (some ⟨b, 0, none⟩) n c, .int .i64 i, .slice (some ⟨vb, 0, none⟩) m vc] w fun e w' =>
      e = .returned (.slice (some ⟨b, 0, none⟩) (n + m) c) ∧ w' = (w.drew.setRow b A1).setRow b A2 := by
  have mixed : Try.prog.follows .mixedOrders = true := by kernel_rfl
  have hz1 : ¬ ((m : Int) = 0) := by omega
  have hz2 : ¬ ((i : Int) = (n : Int)) := by omega
  have hov : ∀ lb cb, (callFunc 144 #[.slice (some ⟨vb, 0, none⟩) m vc, .slice (some ⟨b, (i + m) * 5, none⟩) lb cb]).run Try.prog w = .ok (.value (.bool false)) w := fun lb cb => by
    rw [run_callFunc_extern Try.func144 (by kernel_rfl) (by kernel_rfl) (by kernel_rfl) (e := Extern.SlicesOverlaps.overlaps #[26, 26] #[4]) (by kernel_rfl),
      Lib.run_overlaps_apart w 26 4 98 Try.underlying26 5 Try.sizeOf98 ⟨vb, 0, none⟩ ⟨b, (i + m) * 5, none⟩ m vc lb cb hvb tA tB kA kB hsa hsb hkB hfa hfe]
    rfl
  have hdl : (xs.drop (i * 5)).length = (n - i) * 5 := by rw [List.length_drop, hxl, Nat.sub_mul]
  have hw1 : IntKind.i64.wrap ((i : Int) + (m : Int)) = (i : Int) + (m : Int) := by rw [IntKind.wrap_i64]; omega
  have hb1 : (0 : Int) ≤ (i : Int) + (m : Int) := by omega
  have hin : i ≤ n := by omega
  have htn : ((i : Int) + (m : Int)).toNat = i + m := by omega
  have hb2 : ¬ (c = i + m) := by omega
  have hb3 : (i : Int) ≤ (n : Int) + (m : Int) := by omega
  have hb4 : ¬ (c = i) := by omega
  have hcp1 : ∀ ty dc sc, (Builtin.copy_ #[26, 26] ty #[.slice (some ⟨b, (i + m) * 5, none⟩) (n + m - (i + m)) dc, .slice (some ⟨b, i * 5, none⟩) (n + m - i) sc]).run Try.prog w.drew = .ok (goInt (Nat.min (n + m - i) (n + m - (i + m)))) (w.drew.setRow b A1) := fun ty dc sc => by
    rw [hA1]
    refine nnk' w.drew 26 26 ty 98 Try.t98 b ((i + m) * 5) (n + m - (i + m)) dc ⟨b, i * 5, none⟩ (n + m - i) sc curA 98 (xs.drop (i * 5)) Try.underlying26 (by kernel_rfl) hg ?_ ?_ ?_ ?_
    · rw [hdl]; show (n - i) * 5 = Nat.min (n + m - i) (n + m - (i + m)) * 5
      rw [show Nat.min (n + m - i) (n + m - (i + m)) = n - i by simp only [Nat.min_def]; split <;> omega]
    · intro j v hj
      rw [Addr.add_lit]
      rw [List.getElem?_drop, ← hxs] at hj
      have hlt : i * 5 + j < n * 5 := by
        have := (List.getElem?_eq_some_iff.1 hj).1
        simp at this; omega
      rw [List.getElem?_take_of_lt hlt] at hj
      show w.cell? _ = _
      rw [cell_of_row w b _ curA 98 (0, 0) hg]
      simpa using hj
    · rw [hdl, hsz]; omega
    · exact fun v hv => h1c v (List.mem_of_mem_drop hv)
  have hg1 : (w.drew.setRow b A1).heap[b]? = some (.cells A1 98 (0, 0)) := Go.Ab.setRow_heap hg
  have hA1s : A1.size = c * 5 := by rw [hA1]; simp [hdl, hsz]; omega
  have hcp2 : ∀ (W : World), W.heap = (w.drew.setRow b A1).heap → ∀ ty dc, (Builtin.copy_ #[26, 26] ty #[.slice (some ⟨b, i * 5, none⟩) (n + m - i) dc, .slice (some ⟨vb, 0, none⟩) m vc]).run Try.prog W = .ok (goInt (Nat.min m (n + m - i))) (W.setRow b A2) := fun W hW ty dc => by
    rw [hA2]
    refine nnk' W 26 26 ty 98 Try.t98 b (i * 5) (n + m - i) dc ⟨vb, 0, none⟩ m vc A1 98 vs Try.underlying26 (by kernel_rfl) (by rw [hW]; exact hg1) ?_ ?_ ?_ h1v
    · rw [hvl]; show m * 5 = Nat.min m (n + m - i) * 5
      rw [show Nat.min m (n + m - i) = m by simp only [Nat.min_def]; split <;> omega]
    · intro j v hj
      rw [Addr.add_lit, Nat.zero_add]
      have := hvs j v hj
      unfold World.cell? at this ⊢
      rw [hW]
      rw [Go.Ab.setRow_other (w := w.drew) hvb]
      exact this
    · rw [hvl, hA1s]; omega
  clear hA1 hA2 hg hsz hxl hxs hvl hvs h1c h1v hdl hg1 hA1s
  go_enter Try.func121, Try.ntmps121
  go_wp2_with (simp only [hov])
  go_region_law_o (refine step_copy_runI rfl _ _ 26 26 rfl _ _ (by simp [Act.eval, Act.put]) (by simp [Act.eval, Act.put]) (hcp1 _ _ _) ?_)
  go_wp2_with (at_builtin; refine wpList_copy_runI _ rfl _ _ 26 26 rfl _ _ rfl rfl (hcp2 _ rfl _ _) ?_)
  go_ret
  exact ⟨rfl, rfl⟩
theorem np6' (w : World) (base : Option Addr) (n c m vb vc : Nat) (vs xs : List Value) (z : Value) (hz : Try.t98.zero = some z) (hm : 0 < m) (hnc : n ≤ c) (hroom : c < n + m) (hbig : (n + m) * Try.t98.bytes ≤ 140737488355328) (h63 : n + m ≤ 2147483648)
    (hnil : base = none → n = 0 ∧ c = 0) (hxl : xs.length = n * 5) (hxs : ∀ a, base = some a → ∀ j v, xs[j]? = some v → w.cell? (a.add j) = some v)
    (hvl : vs.length = m * 5) (hvs : ∀ j v, vs[j]? = some v → w.cell? ⟨vb, j, none⟩ = some v) :
    Calls Try.prog 121 #[.slice base n c, .int .i64 n, .slice (some ⟨vb, 0, none⟩) m vc] w fun e w' =>
      e = .returned (.slice (some ⟨w.heap.size, 0, none⟩) (n + m) (grownCap w (n + m) c 98)) ∧ w' = w.drew.alloc (.cells ((xs ++ vs).toArray ++ Builtin.zeroCells z.cells (grownCap w (n + m) c 98 - (n + m))) 98) := by
  have hz1 : ¬ ((m : Int) = 0) := by omega
  have hr : ∀ ty, (Builtin.append_ #[26, 26] ty #[.slice base n c, .slice (some ⟨vb, 0, none⟩) m vc]).run Try.prog w = .ok (.slice (some ⟨w.heap.size, 0, none⟩) (n + m) (grownCap w (n + m) c 98)) (w.drew.alloc (.cells ((xs ++ vs).toArray ++ Builtin.zeroCells z.cells (grownCap w (n + m) c 98 - (n + m))) 98)) := fun ty => by
    cases base with
    | none =>
      obtain ⟨rfl, rfl⟩ := hnil rfl
      have hx0 : xs = [] := List.eq_nil_of_length_eq_zero (by omega)
      subst hx0
      have := run_append_nil w 26 ty 98 Try.t98 z Try.underlying26 (by kernel_rfl) hz ⟨vb, 0, none⟩ m vc vs hvl (fun j u hj => by rw [Addr.add_lit, Nat.zero_add]; exact hvs j u hj) hm (by omega) (by rw [Nat.zero_add] at hbig; omega)
      simpa using this
    | some a =>
      have := run_append_grow w 26 ty 98 Try.t98 z Try.underlying26 (by kernel_rfl) hz a n c xs hxl (hxs a rfl) ⟨vb, 0, none⟩ m vc vs hvl (fun j u hj => by rw [Addr.add_lit, Nat.zero_add]; exact hvs j u hj) hroom (by omega) (growslice_fits hroom hbig)
      rw [this]
      congr 3
      simp
  clear hxl hxs hvl hvs hz hbig
  generalize w.drew.alloc (.cells ((xs ++ vs).toArray ++ Builtin.zeroCells z.cells (grownCap w (n + m) c 98 - (n + m))) 98) = W at hr ⊢
  generalize Value.slice (some ⟨w.heap.size, 0, none⟩) (n + m) (grownCap w (n + m) c 98) = V at hr ⊢
  go_enter Try.func121, Try.ntmps121
  go_wp2_with (at_builtin; refine Lib.wpList_append_run _ rfl _ _ _ _ rfl _ _ rfl rfl _ _ (hr _) ?_)
  all_goals (go_ret; exact ⟨rfl, rfl⟩)
theorem nvn' (w : World) (b n c i m vb vc : Nat) (vs xs : List Value) (z : Value) (hz : Try.t98.zero = some z) (hzs : z.cells.size = 5) (hi : i < n) (hm : 0 < m) (hnc : n ≤ c) (hroom : c < n + m) (hc63 : c ≤ 9223372036854775807) (hbig : (n + m) * Try.t98.bytes ≤ 140737488355328) (h63 : n + m ≤ 2147483648)
    (curA R A1 A2 : Array Value) (hg : w.heap[b]? = some (.cells curA 98 (0, 0))) (hxl : xs.length = n * 5) (hxs : curA.toList.take (n * 5) = xs) (hvbw : vb < w.heap.size) (hvl : vs.length = m * 5) (hvs : ∀ j v, vs[j]? = some v → w.cell? ⟨vb, j, none⟩ = some v) (h1c : ∀ v ∈ xs, v.oneCell' = true) (h1v : ∀ v ∈ vs, v.oneCell' = true)
    (hR : R = (xs.take (i * 5)).toArray ++ Builtin.zeroCells z.cells (n + m - i) ++ Builtin.zeroCells z.cells (grownCap w (n + m) c 98 - (n + m)))
    (hA1 : A1 = (R.toList.take (i * 5) ++ vs ++ R.toList.drop (i * 5 + vs.length)).toArray) (hA2 : A2 = (A1.toList.take ((i + m) * 5) ++ xs.drop (i * 5) ++ A1.toList.drop ((i + m) * 5 + (xs.drop (i * 5)).length)).toArray) :
    Calls Try.prog 121 #[.slice (some ⟨b, 0, none⟩) n c, .int .i64 i, .slice (some ⟨vb, 0, none⟩) m vc] w fun e w' =>
      e = .returned (.slice (some ⟨w.heap.size, 0, none⟩) (n + m) (grownCap w (n + m) c 98)) ∧ w' = (((w.alloc (.cells R 98)).drew.setRow w.heap.size A1).drew).setRow w.heap.size A2 := by
  have mixed : Try.prog.follows .mixedOrders = true := by kernel_rfl
  have hz1 : ¬ ((m : Int) = 0) := by omega
  have hz2 : ¬ ((i : Int) = (n : Int)) := by omega
  have hz3 : (c : Int) < (n : Int) + (m : Int) := by omega
  have hbw : b < w.heap.size := (Array.getElem?_eq_some_iff.1 hg).1
  have hkk : (n : Int) + (m : Int) - (i : Int) = ((n + m - i : Nat) : Int) := by omega
  have hik : i + (n + m - i) = n + m := by omega
  have hcell : ∀ j v, xs[j]? = some v → w.cell? ⟨b, j, none⟩ = some v := fun j v hj => by
    rw [← hxs] at hj
    have hlt : j < n * 5 := by
      have := (List.getElem?_eq_some_iff.1 hj).1
      simp at this; omega
    rw [List.getElem?_take_of_lt hlt] at hj
    rw [cell_of_row w b _ curA 98 (0, 0) hg]
    simpa using hj
  have hold : (Builtin.firstCells Try.t98.size i (.slice (some ⟨b, 0, none⟩) i c)).run Try.prog w.drew = .ok (xs.take (i * 5)).toArray w.drew := by
    refine run_firstCells_some w.drew 5 i ⟨b, 0, none⟩ i c (xs.take (i * 5)) (by rw [List.length_take, hxl]; omega) (fun j v hj => ?_)
    rw [Addr.add_lit, Nat.zero_add]
    rw [List.getElem?_take] at hj
    split at hj
    · exact hcell j v hj
    · cases hj
  have hrz : ∀ ty, (Builtin.append_ #[26, 3] ty #[.slice (some ⟨b, 0, none⟩) i c, .int .i64 ((n : Int) + (m : Int) - (i : Int))]).run Try.prog w =
      .ok (.slice (some ⟨w.heap.size, 0, none⟩) (n + m) (grownCap w (n + m) c 98)) (w.drew.alloc (.cells R 98)) := fun ty => by
    have hbn : (n + m - i) * Try.t98.bytes ≤ 281474976710656 := by
      have : (n + m - i) * Try.t98.bytes ≤ (n + m) * Try.t98.bytes := Nat.mul_le_mul_right _ (by omega)
      omega
    have h := Lib.run_append_grow_zeros w 26 3 ty 98 Try.t98 z .i64 .i64 Try.underlying26 Try.underlying3 (by kernel_rfl) hz (some ⟨b, 0, none⟩) i c (xs.take (i * 5)) hold (n + m - i) (by omega) (by decide) (by omega) (by omega) hbn (by rw [hik]; exact growslice_fits hroom hbig)
    rw [hik] at h
    rw [hkk, hR]
    exact h
  obtain ⟨Gc, hG⟩ : ∃ Gc, Gc = grownCap w (n + m) c 98 := ⟨_, rfl⟩
  rw [← hG] at hrz hR ⊢
  have hGn : n + m ≤ Gc := by rw [hG]; exact grownCap_ge w _ _ _
  have hG63 : Gc ≤ 9223372036854775807 := by
    have := grownCap_le_maxLen w (n + m) c 98 (by unfold maxLen; omega)
    rw [← hG] at this
    unfold maxLen at this
    omega
  have hdl : (xs.drop (i * 5)).length = (n - i) * 5 := by rw [List.length_drop, hxl, Nat.sub_mul]
  have hRs : R.size = Gc * 5 := by
    rw [hR]
    simp [Builtin.zeroCells, hzs, hxl]
    omega
  obtain ⟨W1, hW1⟩ : ∃ W1, W1 = w.drew.alloc (.cells R 98) := ⟨_, rfl⟩
  have hN : (w.alloc (.cells R 98)).heap[w.heap.size]? = some (.cells R 98 (0, 0)) := by
    unfold World.alloc
    simp only
    rw [Array.getElem?_push, if_pos rfl]
  have hO : ∀ k, k < w.heap.size → (w.alloc (.cells R 98)).heap[k]? = w.heap[k]? := fun k hk => by
    unfold World.alloc
    simp only
    rw [Array.getElem?_push_lt hk, Array.getElem?_eq_getElem hk]
  have hcpA : ∀ (W : World), W.heap = (w.alloc (.cells R 98)).heap → ∀ ty dc, (Builtin.copy_ #[26, 26] ty #[.slice (some ⟨w.heap.size, i * 5, none⟩) (n + m - i) dc, .slice (some ⟨vb, 0, none⟩) m vc]).run Try.prog W = .ok (goInt (Nat.min m (n + m - i))) (W.setRow w.heap.size A1) := fun W hW ty dc => by
    rw [hA1]
    refine nnk' W 26 26 ty 98 Try.t98 w.heap.size (i * 5) (n + m - i) dc ⟨vb, 0, none⟩ m vc R 98 vs Try.underlying26 (by kernel_rfl) (by rw [hW]; exact hN) ?_ ?_ ?_ h1v
    · rw [hvl]; show m * 5 = Nat.min m (n + m - i) * 5
      rw [show Nat.min m (n + m - i) = m by simp only [Nat.min_def]; split <;> omega]
    · intro j v hj
      rw [Addr.add_lit, Nat.zero_add]
      have := hvs j v hj
      unfold World.cell? at this ⊢
      rw [hW, hO vb hvbw]
      exact this
    · rw [hvl, hRs]; omega
  have hA1s : A1.size = Gc * 5 := by rw [hA1]; simp [hvl, hRs]; omega
  have hcpB : ∀ (W : World), W.heap = ((w.alloc (.cells R 98)).drew.setRow w.heap.size A1).heap → ∀ ty dc sc, (Builtin.copy_ #[26, 26] ty #[.slice (some ⟨w.heap.size, (i + m) * 5, none⟩) (n + m - (i + m)) dc, .slice (some ⟨b, i * 5, none⟩) (n - i) sc]).run Try.prog W = .ok (goInt (Nat.min (n - i) (n + m - (i + m)))) (W.setRow w.heap.size A2) := fun W hW ty dc sc => by
    rw [hA2]
    refine nnk' W 26 26 ty 98 Try.t98 w.heap.size ((i + m) * 5) (n + m - (i + m)) dc ⟨b, i * 5, none⟩ (n - i) sc A1 98 (xs.drop (i * 5)) Try.underlying26 (by kernel_rfl) (by rw [hW]; exact Go.Ab.setRow_heap hN) ?_ ?_ ?_ (fun v hv => h1c v (List.mem_of_mem_drop hv))
    · rw [hdl]; show (n - i) * 5 = Nat.min (n - i) (n + m - (i + m)) * 5
      rw [show Nat.min (n - i) (n + m - (i + m)) = n - i by simp only [Nat.min_def]; split <;> omega]
    · intro j v hj
      rw [Addr.add_lit]
      rw [List.getElem?_drop] at hj
      have := hcell _ v hj
      unfold World.cell? at this ⊢
      rw [hW, Go.Ab.setRow_other (w := (w.alloc (.cells R 98)).drew) (show b ≠ w.heap.size by omega)]
      rw [show (w.alloc (.cells R 98)).drew.heap[b]? = w.heap[b]? from hO b hbw]
      exact this
    · rw [hdl, hA1s]; omega
  have hGi : ¬ (Gc = i) := by omega
  have hGim : ¬ (Gc = i + m) := by omega
  have hci : ¬ (c = i) := by omega
  have hw1 : IntKind.i64.wrap ((i : Int) + (m : Int)) = (i : Int) + (m : Int) := by rw [IntKind.wrap_i64]; omega
  have hb1 : (0 : Int) ≤ (i : Int) + (m : Int) := by omega
  have hin : i ≤ n := by omega
  have htn : ((i : Int) + (m : Int)).toNat = i + m := by omega
  have hb3 : (i : Int) ≤ (n : Int) := by omega
  clear hkk hik hold hR hG hA1 hA2 hg hxl hxs hvl hvs h1c h1v hdl hRs hA1s hN hO hcell hW1 hz hzs hbig
  go_enter Try.func121, Try.ntmps121
  go_wp2_with (first
    | (at_builtin; refine Lib.wpList_append_run _ rfl _ _ _ _ rfl _ _ rfl rfl _ _ (hrz _) ?_)
    | rw [hcpA ((w.alloc (.cells R 98)).drew) rfl])
  go_region_law_o (refine step_copy_runI rfl _ _ 26 26 rfl (.slice (some ⟨w.heap.size, (i + m) * 5, none⟩) (n + m - (i + m)) (Gc - (i + m))) (.slice (some ⟨b, i * 5, none⟩) (n - i) (c - i)) (by simp [Act.eval, Act.put]) (by simp [Act.eval, Act.put]) (hcpB ((((w.alloc (.cells R 98)).drew).setRow w.heap.size A1).drew) rfl 3 (Gc - (i + m)) (c - i)) ?_)
  go_wp2
  go_ret
  exact ⟨rfl, rfl⟩
theorem np8' (w : World) (n i m : Nat) (xs vs : List Value) (vS vV : Value) (o1 : w.ownsRow 0 98 5 vS n xs) (o2 : w.ownsRow 0 98 5 vV m vs) (hap : ∀ b, vS.ownBlock = some b → vV.ownBlock ≠ some b) (h1c : ∀ u ∈ xs, u.oneCell' = true) (h1v : ∀ u ∈ vs, u.oneCell' = true)
    (hi : i ≤ n) (hm : 0 < m) (h63 : n + m ≤ 2147483648) : Calls Try.prog 121 #[vS, .int .i64 i, vV] w fun e w' => ∃ v', e = .returned v' ∧ RowOut w w' 98 5 vS v' (n + m) (xs.take (i * 5) ++ vs ++ xs.drop (i * 5)) := by
  have hb : Try.t98.bytes ≤ 4096 := Nat.le_of_ble_eq_true (by kernel_rfl)
  obtain ⟨z, hz, hzs⟩ : ∃ z, Try.t98.zero = some z ∧ z.cells.size = 5 := ⟨_, rfl, rfl⟩
  have hbig : (n + m) * Try.t98.bytes ≤ 140737488355328 := by
    have : (n + m) * Try.t98.bytes ≤ 2147483648 * 4096 := Nat.mul_le_mul h63 hb
    omega
  obtain ⟨hvl, ⟨_, h0⟩ | ⟨vb, vc, vcur, rfl, _, hvg, hvm, hvc, hvsz, hvt⟩⟩ := o2
  · omega
  have hvbw : vb < w.heap.size := (Array.getElem?_eq_some_iff.1 hvg).1
  have hvs : ∀ j v, vs[j]? = some v → w.cell? ⟨vb, j, none⟩ = some v := fun j v hj => by
    rw [← hvt] at hj
    have hlt : j < m * 5 := by
      have := (List.getElem?_eq_some_iff.1 hj).1
      simp at this; omega
    rw [List.getElem?_take_of_lt hlt] at hj
    rw [cell_of_row w vb _ vcur 98 (0, 0) hvg]
    simpa using hj
  have fresh : ∀ (c : Nat) (A : Array Value) (W : World), W.heap.size = w.heap.size + 1 → W.heap[w.heap.size]? = some (.cells A 98 (0, 0)) → (∀ k, k < w.heap.size → W.heap[k]? = w.heap[k]?) → W.os = w.os → W.tape = w.tape → W.output = w.output →
      A.size = grownCap w (n + m) c 98 * 5 → A.toList.take ((n + m) * 5) = xs.take (i * 5) ++ vs ++ xs.drop (i * 5) → xs.length = n * 5 → RowOut w W 98 5 vS (.slice (some ⟨w.heap.size, 0, none⟩) (n + m) (grownCap w (n + m) c 98)) (n + m) (xs.take (i * 5) ++ vs ++ xs.drop (i * 5)) := fun c A W w1 w2 w3 w4 w5 w6 hA hT hxl =>
    ⟨⟨by simp [hxl, hvl]; omega, .inr ⟨w.heap.size, _, A, rfl, Nat.zero_le _, w2, grownCap_ge w _ _ _, grownCap_le_maxLen w _ _ _ (by unfold maxLen; omega), hA, hT⟩⟩, fun b hb => .inr (by simp [Value.ownBlock] at hb; omega), ⟨w4, w5, w6, by omega, fun k hk _ => w3 k hk⟩⟩
  have pushed : ∀ (A : Array Value), (w.drew.alloc (.cells A 98)).heap.size = w.heap.size + 1 ∧ (w.drew.alloc (.cells A 98)).heap[w.heap.size]? = some (.cells A 98 (0, 0)) ∧ (∀ k, k < w.heap.size → (w.drew.alloc (.cells A 98)).heap[k]? = w.heap[k]?) := fun A => by
    refine ⟨(show (w.heap.push _).size = _ by rw [Array.size_push]), ?_, fun k hk => ?_⟩
    · show (w.heap.push _)[w.heap.size]? = _
      rw [Array.getElem?_push, if_pos rfl]
    · show (w.heap.push _)[k]? = _
      rw [Array.getElem?_push_lt hk, Array.getElem?_eq_getElem hk]
  have endG : ∀ (base : Option Addr) (c : Nat), vS = .slice base n c → i = n → n ≤ c → c < n + m → (base = none → n = 0 ∧ c = 0) → xs.length = n * 5 → (∀ a, base = some a → ∀ j v, xs[j]? = some v → w.cell? (a.add j) = some v) → Calls Try.prog 121 #[vS, .int .i64 i, .slice (some ⟨vb, 0, none⟩) m vc] w fun e w' => ∃ v', e = .returned v' ∧ RowOut w w' 98 5 vS v' (n + m) (xs.take (i * 5) ++ vs ++ xs.drop (i * 5)) := by
    rintro base c rfl rfl hnc hroom hnil hxl hxs
    refine (np6' w base i c m vb vc vs xs z hz hm hnc hroom hbig h63 hnil hxl hxs hvl hvs).mono ?_
    rintro e w' ⟨rfl, rfl⟩
    obtain ⟨p1, p2, p3⟩ := pushed ((xs ++ vs).toArray ++ Builtin.zeroCells z.cells (grownCap w (i + m) c 98 - (i + m)))
    refine ⟨_, rfl, fresh c _ _ p1 p2 p3 rfl rfl rfl ?_ ?_ hxl⟩
    · have := grownCap_ge w (i + m) c 98
      simp [Builtin.zeroCells, hzs, hxl, hvl]
      omega
    · have e1 : xs.take (i * 5) = xs := List.take_of_length_le (by omega)
      have e2 : xs.drop (i * 5) = [] := List.drop_of_length_le (by omega)
      rw [e1, e2, List.append_nil, Array.toList_append, List.toList_toArray]
      exact nm7' _ _ _ _ (by rw [hxl, hvl]; omega)
  obtain ⟨hxl, ⟨rfl, rfl⟩ | ⟨b, c, cur, rfl, _, hg, hnc, hcm, hcs, hct⟩⟩ := o1
  · exact endG none 0 rfl (by omega) (Nat.le_refl _) (by omega) (fun _ => ⟨rfl, rfl⟩) hxl (fun a h => by cases h)
  have hbb : vb ≠ b := fun h => hap b rfl (by rw [h]; rfl)
  have hcell : ∀ j v, xs[j]? = some v → w.cell? ⟨b, j, none⟩ = some v := fun j v hj => by
    rw [← hct] at hj
    have hlt : j < n * 5 := by
      have := (List.getElem?_eq_some_iff.1 hj).1
      simp at this; omega
    rw [List.getElem?_take_of_lt hlt] at hj
    rw [cell_of_row w b _ cur 98 (0, 0) hg]
    simpa using hj
  have hcm' : c ≤ 9223372036854775807 := by unfold maxLen at hcm; omega
  have hbw : b < w.heap.size := (Array.getElem?_eq_some_iff.1 hg).1
  have inPlace : ∀ (A : Array Value) (W : World), W.heap.size = w.heap.size → W.heap[b]? = some (.cells A 98 (0, 0)) → (∀ k, k ≠ b → W.heap[k]? = w.heap[k]?) → W.os = w.os → W.tape = w.tape → W.output = w.output → n + m ≤ c →
      A.size = c * 5 → A.toList.take ((n + m) * 5) = xs.take (i * 5) ++ vs ++ xs.drop (i * 5) → RowOut w W 98 5 (.slice (some ⟨b, 0, none⟩) n c) (.slice (some ⟨b, 0, none⟩) (n + m) c) (n + m) (xs.take (i * 5) ++ vs ++ xs.drop (i * 5)) := fun A W w1 w2 w3 w4 w5 w6 hr hA hT =>
    ⟨⟨by simp [hxl, hvl]; omega, .inr ⟨b, c, A, rfl, Nat.zero_le _, w2, hr, hcm, hA, hT⟩⟩, fun b' hb' => .inl hb', ⟨w4, w5, w6, by omega, fun k hk hne => w3 k (fun e => hne (by rw [e]; rfl))⟩⟩
  by_cases hin : i = n
  · by_cases hr : n + m ≤ c
    · subst hin
      refine (nqf' w b i c m vb vc vs cur hm hr hg hcs hvl hvs h1v).mono ?_
      rintro e w' ⟨rfl, rfl⟩
      refine ⟨_, rfl, inPlace _ _ Go.Ab.setRow_size (Go.Ab.setRow_heap hg) (fun k hk => Go.Ab.setRow_other hk) rfl rfl rfl hr ?_ ?_⟩
      · simp [hcs, hvl]; omega
      · have e1 : xs.take (i * 5) = xs := List.take_of_length_le (by omega)
        have e2 : xs.drop (i * 5) = [] := List.drop_of_length_le (by omega)
        rw [e1, e2, List.append_nil, hct]
        exact nm7' _ _ _ _ (by rw [hxl, hvl]; omega)
    · exact endG (some ⟨b, 0, none⟩) c rfl hin hnc (by omega) (fun h => by cases h) hxl (fun a ha j v hj => by cases ha; rw [Addr.add_lit, Nat.zero_add]; exact hcell j v hj)
  · have hlt : i < n := by omega
    have hdl : (xs.drop (i * 5)).length = (n - i) * 5 := by rw [List.length_drop, hxl, Nat.sub_mul]
    by_cases hr : n + m ≤ c
    · refine (nuh' w b n c i m vb vc vs xs cur _ _ hlt hm hr hcm' hbb hg hcs hxl hct hvl hvs h1c h1v rfl rfl 98 98 vcur.size cur.size (by simp [World.shape?, hvg]) (by simp [World.shape?, hg]) (by omega) (by simp [World.frozen?, hvg]) (by simp [World.frozen?, hvg])).mono ?_
      rintro e w' ⟨rfl, rfl⟩
      refine ⟨_, rfl, inPlace _ _ (by rw [Go.Ab.setRow_size, Go.Ab.setRow_size]; rfl) (Go.Ab.setRow_heap (Go.Ab.setRow_heap (w := w.drew) hg)) (fun k hk => by rw [Go.Ab.setRow_other hk, Go.Ab.setRow_other hk]; rfl) rfl rfl rfl hr ?_ ?_⟩
      · simp [hdl, hcs, hvl]; omega
      · rw [show (i + m) * 5 = i * 5 + vs.length by rw [hvl, Nat.add_mul], List.toList_toArray, List.toList_toArray, lst1 _ _ _ _ _ (by simp [hcs, hvl]; omega), ← List.append_assoc]
        have e1 : cur.toList.take (i * 5) = xs.take (i * 5) := by rw [← hct, List.take_take, Nat.min_eq_left (by omega)]
        rw [e1]
        exact nm7' _ _ _ _ (by simp [hxl, hvl]; omega)
    · refine (nvn' w b n c i m vb vc vs xs z hz hzs hlt hm hnc (by omega) hcm' hbig h63 cur _ _ _ hg hxl hct hvbw hvl hvs h1c h1v rfl rfl rfl).mono ?_
      rintro e w' ⟨rfl, rfl⟩
      have hcg := grownCap_ge w (n + m) c 98
      refine ⟨_, rfl, fresh c _ _ (by rw [Go.Ab.setRow_size]; show (World.setRow _ _ _).heap.size = _; rw [Go.Ab.setRow_size]; exact (pushed _).1) (Go.Ab.setRow_heap (w := (World.setRow _ _ _).drew) (Go.Ab.setRow_heap (w := (w.alloc _).drew) (pushed _).2.1)) (fun k hk => by rw [Go.Ab.setRow_other (by omega)]; show (World.setRow _ _ _).heap[k]? = _; rw [Go.Ab.setRow_other (by omega)]; exact (pushed _).2.2 k hk) rfl rfl rfl ?_ ?_ hxl⟩
      · simp [Builtin.zeroCells, hzs, hdl, hxl, hvl]; omega
      · rw [show (i + m) * 5 = i * 5 + vs.length by rw [hvl, Nat.add_mul], List.toList_toArray, List.toList_toArray, Array.toList_append, Array.toList_append, List.toList_toArray, List.append_assoc (xs.take (i * 5)) (Builtin.zeroCells z.cells (n + m - i)).toList]
        rw [lst2 (xs.take (i * 5)) _ vs (xs.drop (i * 5)) _ (i * 5) (by rw [List.length_take, hxl]; omega)]
        exact nm7' _ _ _ _ (by simp [hxl, hvl]; omega)
theorem nvz' (w : World) (b n c i j : Nat) (xs zs : List Value) (z : Value) (curA A1 A2 : Array Value) (hij : i < j) (hj : j ≤ n) (hnc : n ≤ c) (hc63 : c ≤ 9223372036854775807)
    (hzv : ∀ w, (zeroValue 98).run Try.prog w = .ok z w) (hzs : zs = (Builtin.zeroCells z.cells (j - i)).toList) (hzl : zs.length = (j - i) * 5) (hz1 : ∀ u ∈ zs, u.oneCell' = true)
    (hg : w.heap[b]? = some (.cells curA 98 (0, 0))) (hsz : curA.size = c * 5) (hxl : xs.length = n * 5) (hxs : curA.toList.take (n * 5) = xs) (h1c : ∀ v ∈ xs, v.oneCell' = true)
    (hA1 : A1 = (curA.toList.take (i * 5) ++ xs.drop (j * 5) ++ curA.toList.drop (i * 5 + (xs.drop (j * 5)).length)).toArray)
    (hA2 : A2 = (A1.toList.take ((i + (n - j)) * 5) ++ zs ++ A1.toList.drop ((i + (n - j)) * 5 + zs.length)).toArray) :
    Calls Try.prog 122 #[.slice (some ⟨b, 0, none⟩) n c, .int .i64 i, .int .i64 j] w fun e w' =>
      e = .returned (.slice (some ⟨b, 0, none⟩) (i + (n - j)) c) ∧ w' = (w.drew.setRow b A1).setRow b A2 := by
  have mixed : Try.prog.follows .mixedOrders = true := by kernel_rfl
  have hdl : (xs.drop (j * 5)).length = (n - j) * 5 := by rw [List.length_drop, hxl, Nat.sub_mul]
  have hap : ∀ ty (ad : Addr) sc, ad = ⟨b, j * 5, none⟩ ∨ n = j → (Builtin.append_ #[26, 26] ty #[.slice (some ⟨b, 0, none⟩) i c, .slice (some ad) (n - j) sc]).run Try.prog w.drew = .ok (.slice (some ⟨b, 0, none⟩) (i + (n - j)) c) (w.drew.setRow b A1) := fun ty ad sc had => by
    rw [hA1]
    refine run_append_room w.drew 26 ty 98 Try.t98 Try.underlying26 (by kernel_rfl) b i c curA hg ad (n - j) sc (xs.drop (j * 5)) hdl (fun q u hq => ?_) (fun v hv => h1c v (List.mem_of_mem_drop hv)) (by omega) ?_
    · rcases had with rfl | had
      · rw [Addr.add_lit]
        rw [List.getElem?_drop, ← hxs] at hq
        have hlt : j * 5 + q < n * 5 := by
          have := (List.getElem?_eq_some_iff.1 hq).1
          simp at this; omega
        rw [List.getElem?_take_of_lt hlt] at hq
        show w.cell? _ = _
        rw [cell_of_row w b _ curA 98 (0, 0) hg]
        simpa using hq
      · have := (List.getElem?_eq_some_iff.1 hq).1
        omega
    · rw [hdl, hsz]; show i * 5 + (n - j) * 5 ≤ c * 5; omega
  have hg1 : (w.drew.setRow b A1).heap[b]? = some (.cells A1 98 (0, 0)) := Go.Ab.setRow_heap hg
  have hA1s : A1.size = c * 5 := by rw [hA1]; simp [hdl, hsz]; omega
  obtain ⟨W1, hW1⟩ : ∃ W1, W1 = w.drew.setRow b A1 := ⟨_, rfl⟩
  rw [← hW1] at hap hg1 ⊢
  have hcl : ∀ ty, (Builtin.clear_ #[26] ty #[.slice (some ⟨b, (i + (n - j)) * 5, none⟩) (n - (i + (n - j))) (c - (i + (n - j)))]).run Try.prog W1 = .ok (.tuple #[]) (W1.setRow b A2) := fun ty => by
    rw [hA2]
    rw [show n - (i + (n - j)) = j - i by omega]
    exact n0w' W1 26 98 ty z Try.underlying26 hzv b _ (j - i) _ (by omega) A1 98 zs hzs hg1 (by rw [hzl, hA1s]; omega) hz1
  have hic : i ≤ c := by omega
  have hjc : j ≤ c := by omega
  have hne : ¬ ((i : Int) = (j : Int)) := by omega
  have hle : (i : Int) ≤ (j : Int) := by omega
  have hX : Hid (W1 = w.drew.setRow b A1) := hW1
  clear hzs hzl hz1 hg hsz hxl hxs h1c hA1 hA2 hdl hg1 hA1s hzv hW1
  by_cases hcj : c = j
  · subst hcj
    obtain rfl : n = c := by omega
    have hap0 := hap 26 ⟨b, 0, none⟩ 0 (.inr rfl)
    clear hap
    simp only [Nat.sub_self, Nat.add_zero] at hap0 hcl ⊢
    go_enter Try.func122, Try.ntmps122
    go_wp2_with fail
    go_region_law_o (refine nk9' rfl _ _ 26 26 rfl (.slice (some ⟨b, 0, none⟩) i n) (.slice (some ⟨b, 0, none⟩) 0 0) (by simp [Act.eval, Act.put]) (by simp [Act.eval, Act.put]) hap0 ?_)
    go_wp2
    go_ret
    exact ⟨rfl, rfl⟩
  go_enter Try.func122, Try.ntmps122
  go_wp2_with fail
  go_region_law_o (refine nk9' rfl _ _ 26 26 rfl (.slice (some ⟨b, 0, none⟩) i c) (.slice (some ⟨b, j * 5, none⟩) (n - j) (c - j)) (by simp [Act.eval, Act.put]) (by simp [Act.eval, Act.put]) (hap 26 ⟨b, j * 5, none⟩ (c - j) (.inl rfl)) ?_)
  go_wp2
  go_ret
  exact ⟨rfl, rfl⟩
theorem nqj' (w : World) (n i j : Nat) (xs : List Value) (vS : Value) (o1 : w.ownsRow 0 98 5 vS n xs) (h1c : ∀ u ∈ xs, u.oneCell' = true) (hij : i < j) (hj : j ≤ n) :
    Calls Try.prog 122 #[vS, .int .i64 i, .int .i64 j] w fun e w' => ∃ v', e = .returned v' ∧ RowOut w w' 98 5 vS v' (n - (j - i)) (xs.take (i * 5) ++ xs.drop (j * 5)) := by
  obtain ⟨z, hzv, hzs⟩ : ∃ z, (∀ w, (zeroValue 98).run Try.prog w = .ok z w) ∧ z.cells.size = 5 := ⟨_, Try.zeroValue98, rfl⟩
  have hz1 : ∀ u ∈ (Builtin.zeroCells z.cells (j - i)).toList, u.oneCell' = true := by
    have hz : (zeroValue 98).run Try.prog w = .ok z w := hzv w
    rw [Try.zeroValue98 w] at hz
    cases hz
    exact nuq' _ (by kernel_rfl) (by rw [hzs]; omega) _
  obtain ⟨hxl, ⟨rfl, rfl⟩ | ⟨b, c, cur, rfl, _, hg, hnc, hcm, hcs, hct⟩⟩ := o1
  · omega
  have hcm' : c ≤ 9223372036854775807 := by unfold maxLen at hcm; omega
  have hzl : (Builtin.zeroCells z.cells (j - i)).toList.length = (j - i) * 5 := by simp [Builtin.zeroCells, hzs]
  have hdl : (xs.drop (j * 5)).length = (n - j) * 5 := by rw [List.length_drop, hxl, Nat.sub_mul]
  refine (nvz' w b n c i j xs _ z cur _ _ hij hj hnc hcm' hzv rfl hzl hz1 hg hcs hxl hct h1c rfl rfl).mono ?_
  rintro e w' ⟨rfl, rfl⟩
  have hn : n - (j - i) = i + (n - j) := by omega
  rw [hn]
  refine ⟨_, rfl, ⟨by simp [hxl, hdl]; omega, .inr ⟨b, c, _, rfl, Nat.zero_le _, Go.Ab.setRow_heap (Go.Ab.setRow_heap (w := w.drew) hg), by omega, hcm, ?_, ?_⟩⟩, fun b' hb' => .inl hb', ⟨rfl, rfl, rfl, by rw [Go.Ab.setRow_size, Go.Ab.setRow_size]; exact Nat.le_refl _, fun k hk hne => by
    have hkb : k ≠ b := fun e => hne (by rw [e]; rfl)
    rw [Go.Ab.setRow_other hkb, Go.Ab.setRow_other hkb]; rfl⟩⟩
  · simp [hdl, hcs, hzl]; omega
  · have e1 : cur.toList.take (i * 5) = xs.take (i * 5) := by rw [← hct, List.take_take, Nat.min_eq_left (by omega)]
    have hlen : (xs.take (i * 5) ++ xs.drop (j * 5)).length = (i + (n - j)) * 5 := by rw [List.length_append, hdl, List.length_take, hxl]; omega
    have hlen' := hlen
    rw [List.length_append] at hlen'
    rw [List.toList_toArray, List.toList_toArray, e1, List.append_assoc (List.take _ _)]
    rw [List.take_append_of_le_length (by simp only [List.length_take, List.length_append] at hlen' ⊢; omega), List.take_take, Nat.min_self, List.take_left' hlen]
theorem nwb' (z : Value) (hz0 : Try.t3.zero = some z) (hzs : z.cells.size = 1) (w : World) (ad : Addr) (n c : Nat) (news : List Value) (hl : news.length = n * 1) (hn : n ≤ maxLen) (hbig : n * Try.t3.bytes ≤ 140737488355328)
    (hc : ∀ j u, news[j]? = some u → w.cell? (ad.add j) = some u) (h1 : ∀ u ∈ news, u.oneCell' = true) :
    Calls Try.prog 105 #[.slice (some ad) n c] w fun e w' => ∃ v', e = .returned v' ∧ w'.ownsRow w.heap.size 3 1 v' n news ∧ v' ≠ .slice none 0 0 ∧ Below w.heap.size w w' := by
  have mixed : Try.prog.follows .mixedOrders = true := by kernel_rfl
  have tu := Try.underlying24
  have qu : ∀ (w : World) (a : Option Addr) (n c n' c' : Nat), (binOp .eql 24 (.slice a n c) (.slice none n' c')).run Try.prog w = .ok (.bool a.isNone) w := fun w a n c n' c' => Lib.run_eql_slice_nil w _ _ a n c n' c' tu
  have uu : ∀ w, Sem.run Try.prog (underlying 24) w = .ok (TypeDesc.slice 3) w := run_underlying tu
  have A : Aside (∀ j u, news[j]? = some u → w.cell? (ad.add j) = some u) := hc
  clear hc
  go_enter Try.func105, Try.ntmps105
  go_wp2_with (at_builtin; refine wpList_append_own _ rfl _ _ 24 rfl w.heap.size 3 Try.t3 z 1 Try.t3.bytes tu (by kernel_rfl) hz0 (by kernel_rfl) rfl hzs (by decide) _ _ _ rfl (World.ownsRow_made w #[] 0 (Nat.le_refl _) (Nat.zero_le _) (by simp)) ad n c news rfl ?qc1 ?qc2 ?qc3 ?qc4 ?qc5 ?qc6 ?_)
  case qc1 => exact hl
  case qc2 =>
    intro j u hj
    exact Lib.cell?_alloc_some _ (A.out j u hj)
  case qc3 => exact h1
  case qc4 => rw [Nat.zero_add]; exact hn
  case qc5 => rw [Nat.zero_add]; exact hbig
  case qc6 => simp
  intro v' w1 hown hgrow hnil
  go_wp2
  go_ret
  refine ⟨v', rfl, by simpa using hown, ?_, ?_⟩
  · exact hnil
  · exact ((Below.refl _ w).alloc (Nat.le_refl _) _).grown hgrow (by simp) (by intro k hk; simp [Value.ownBlock] at hk; omega)
theorem nxd' (w : World) (n c : Nat) :
    Calls Try.prog 105 #[.slice none n c] w fun e w' => e = .returned (.slice none 0 0) ∧ w' = w := by
  have tu := Try.underlying24
  have qu : ∀ (w : World) (a : Option Addr) (n c n' c' : Nat), (binOp .eql 24 (.slice a n c) (.slice none n' c')).run Try.prog w = .ok (.bool a.isNone) w := fun w a n c n' c' => Lib.run_eql_slice_nil w _ _ a n c n' c' tu
  go_enter Try.func105, Try.ntmps105
  go_wp2
  go_ret
  exact ⟨rfl, rfl⟩
theorem nvw' (z : Value) (hz0 : Try.t4.zero = some z) (hzs : z.cells.size = 1) (w : World) (ad : Addr) (n c : Nat) (news : List Value) (hl : news.length = n * 1) (hn : n ≤ maxLen) (hbig : n * Try.t4.bytes ≤ 140737488355328)
    (hc : ∀ j u, news[j]? = some u → w.cell? (ad.add j) = some u) (h1 : ∀ u ∈ news, u.oneCell' = true) :
    Calls Try.prog 106 #[.slice (some ad) n c] w fun e w' => ∃ v', e = .returned v' ∧ w'.ownsRow w.heap.size 4 1 v' n news ∧ v' ≠ .slice none 0 0 ∧ Below w.heap.size w w' := by
  have mixed : Try.prog.follows .mixedOrders = true := by kernel_rfl
  have tu := Try.underlying25
  have qu : ∀ (w : World) (a : Option Addr) (n c n' c' : Nat), (binOp .eql 25 (.slice a n c) (.slice none n' c')).run Try.prog w = .ok (.bool a.isNone) w := fun w a n c n' c' => Lib.run_eql_slice_nil w _ _ a n c n' c' tu
  have uu : ∀ w, Sem.run Try.prog (underlying 25) w = .ok (TypeDesc.slice 4) w := run_underlying tu
  have A : Aside (∀ j u, news[j]? = some u → w.cell? (ad.add j) = some u) := hc
  clear hc
  go_enter Try.func106, Try.ntmps106
  go_wp2_with (at_builtin; refine wpList_append_own _ rfl _ _ 25 rfl w.heap.size 4 Try.t4 z 1 Try.t4.bytes tu (by kernel_rfl) hz0 (by kernel_rfl) rfl hzs (by decide) _ _ _ rfl (World.ownsRow_made w #[] 0 (Nat.le_refl _) (Nat.zero_le _) (by simp)) ad n c news rfl ?qc1 ?qc2 ?qc3 ?qc4 ?qc5 ?qc6 ?_)
  case qc1 => exact hl
  case qc2 =>
    intro j u hj
    exact Lib.cell?_alloc_some _ (A.out j u hj)
  case qc3 => exact h1
  case qc4 => rw [Nat.zero_add]; exact hn
  case qc5 => rw [Nat.zero_add]; exact hbig
  case qc6 => simp
  intro v' w1 hown hgrow hnil
  go_wp2
  go_ret
  refine ⟨v', rfl, by simpa using hown, ?_, ?_⟩
  · exact hnil
  · exact ((Below.refl _ w).alloc (Nat.le_refl _) _).grown hgrow (by simp) (by intro k hk; simp [Value.ownBlock] at hk; omega)
theorem nw3' (w : World) (n c : Nat) :
    Calls Try.prog 106 #[.slice none n c] w fun e w' => e = .returned (.slice none 0 0) ∧ w' = w := by
  have tu := Try.underlying25
  have qu : ∀ (w : World) (a : Option Addr) (n c n' c' : Nat), (binOp .eql 25 (.slice a n c) (.slice none n' c')).run Try.prog w = .ok (.bool a.isNone) w := fun w a n c n' c' => Lib.run_eql_slice_nil w _ _ a n c n' c' tu
  go_enter Try.func106, Try.ntmps106
  go_wp2
  go_ret
  exact ⟨rfl, rfl⟩
theorem nv7' (z : Value) (hz0 : Try.t98.zero = some z) (hzs : z.cells.size = 5) (w : World) (ad : Addr) (n c : Nat) (news : List Value) (hl : news.length = n * 5) (hn : n ≤ maxLen) (hbig : n * Try.t98.bytes ≤ 140737488355328)
    (hc : ∀ j u, news[j]? = some u → w.cell? (ad.add j) = some u) (h1 : ∀ u ∈ news, u.oneCell' = true) :
    Calls Try.prog 107 #[.slice (some ad) n c] w fun e w' => ∃ v', e = .returned v' ∧ w'.ownsRow w.heap.size 98 5 v' n news ∧ v' ≠ .slice none 0 0 ∧ Below w.heap.size w w' := by
  have mixed : Try.prog.follows .mixedOrders = true := by kernel_rfl
  have tu := Try.underlying26
  have qu : ∀ (w : World) (a : Option Addr) (n c n' c' : Nat), (binOp .eql 26 (.slice a n c) (.slice none n' c')).run Try.prog w = .ok (.bool a.isNone) w := fun w a n c n' c' => Lib.run_eql_slice_nil w _ _ a n c n' c' tu
  have uu : ∀ w, Sem.run Try.prog (underlying 26) w = .ok (TypeDesc.slice 98) w := run_underlying tu
  have A : Aside (∀ j u, news[j]? = some u → w.cell? (ad.add j) = some u) := hc
  clear hc
  go_enter Try.func107, Try.ntmps107
  go_wp2_with (at_builtin; refine wpList_append_own _ rfl _ _ 26 rfl w.heap.size 98 Try.t98 z 5 Try.t98.bytes tu (by kernel_rfl) hz0 (by kernel_rfl) rfl hzs (by decide) _ _ _ rfl (World.ownsRow_made w #[] 0 (Nat.le_refl _) (Nat.zero_le _) (by simp)) ad n c news rfl ?qc1 ?qc2 ?qc3 ?qc4 ?qc5 ?qc6 ?_)
  case qc1 => exact hl
  case qc2 =>
    intro j u hj
    exact Lib.cell?_alloc_some _ (A.out j u hj)
  case qc3 => exact h1
  case qc4 => rw [Nat.zero_add]; exact hn
  case qc5 => rw [Nat.zero_add]; exact hbig
  case qc6 => simp
  intro v' w1 hown hgrow hnil
  go_wp2
  go_ret
  refine ⟨v', rfl, by simpa using hown, ?_, ?_⟩
  · exact hnil
  · exact ((Below.refl _ w).alloc (Nat.le_refl _) _).grown hgrow (by simp) (by intro k hk; simp [Value.ownBlock] at hk; omega)
theorem nwx' (w : World) (n c : Nat) :
    Calls Try.prog 107 #[.slice none n c] w fun e w' => e = .returned (.slice none 0 0) ∧ w' = w := by
  have tu := Try.underlying26
  have qu : ∀ (w : World) (a : Option Addr) (n c n' c' : Nat), (binOp .eql 26 (.slice a n c) (.slice none n' c')).run Try.prog w = .ok (.bool a.isNone) w := fun w a n c n' c' => Lib.run_eql_slice_nil w _ _ a n c n' c' tu
  go_enter Try.func107, Try.ntmps107
  go_wp2
  go_ret
  exact ⟨rfl, rfl⟩
theorem nws' (b : Nat) (w : World) (h0 : w.cell? ⟨b, 0, none⟩ = some (.pointer (some ⟨b, 0, none⟩))) :
    Calls Try.prog 116 #[.pointer (some ⟨b, 0, none⟩)] w fun e w' => e = .returned (.tuple #[]) ∧ w' = w := by
  go_enter Try.func116, Try.ntmps116
  go_wp2
  rw [Lib.run_neq_ptr_same w _ Try.underlying131 (show Try.prog.info? 133 = some Try.t133 by kernel_rfl)]
  go_wp2
  go_end0
  exact ⟨rfl, rfl⟩
theorem nuy' (b : Nat) (w : World) (h0 : w.cell? ⟨b, 0, none⟩ = some (.pointer none)) (hsh : w.shape? b = some (133, 2)) (hfz : w.frozen? ⟨b, 0, none⟩ = false) :
    Calls Try.prog 116 #[.pointer (some ⟨b, 0, none⟩)] w fun e w' => e = .returned (.tuple #[]) ∧ w' = w.setCell ⟨b, 0, none⟩ (.pointer (some ⟨b, 0, none⟩)) := by
  have hj : Try.prog.info? 133 = some Try.t133 := by kernel_rfl
  go_enter Try.func116, Try.ntmps116
  go_wp2
  rw [Lib.run_to_unsafe w ⟨b, 0, none⟩ Try.underlying131 Try.underlying195 hj (by decide) hsh (Nat.zero_lt_succ 1)]
  simp only [Result.andThen]
  rw [Oper.upon_value]
  go_wp2
  rw [run_callFunc_extern Try.func143 (by kernel_rfl) (by kernel_rfl) (by kernel_rfl) (e := Extern.AbiNoEscape.same) (by kernel_rfl)]
  rw [Lib.run_noEscape]
  simp only [Result.andThen]
  rw [Oper.upon_value]
  go_wp2
  rw [Lib.run_from_unsafe w ⟨b, 0, none⟩ Try.underlying195 Try.underlying131 hj hsh (by kernel_rfl)]
  simp only [Result.andThen]
  rw [Oper.upon_value]
  go_wp2
  go_end0
  exact ⟨rfl, rfl⟩
theorem nwy' (b : Nat) (w : World) (a0 v : Value) (ha : a0 = .pointer none ∨ a0 = .pointer (some ⟨b, 0, none⟩)) (hb : w.heap[b]? = some (.cells #[a0, v] 133 (0, 0))) :
    Calls Try.prog 116 #[.pointer (some ⟨b, 0, none⟩)] w fun e w1 => e = .returned (.tuple #[]) ∧ CcOut w w1 b 133 v := by
  have h0 : w.cell? ⟨b, 0, none⟩ = some a0 := by rw [cell_of_row w b 0 _ 133 (0, 0) hb]; rfl
  rcases ha with rfl | rfl
  · refine (nuy' b w h0 (by simp [World.shape?, hb]) (by simp [World.frozen?, hb])).mono ?_
    rintro e w1 ⟨rfl, rfl⟩
    exact ⟨rfl, by rw [Go.Ab.setCell_heap hb]; rfl, fun k hk => Go.Ab.setCell_other hk, Go.Ab.setCell_size, rfl, rfl, rfl⟩
  · refine (nws' b w h0).mono ?_
    rintro e w1 ⟨rfl, rfl⟩
    exact ⟨rfl, hb, fun _ _ => rfl, rfl, rfl, rfl, rfl⟩
theorem ny0' (b : Nat) (w : World) (a0 v : Value) (ha : a0 = .pointer none ∨ a0 = .pointer (some ⟨b, 0, none⟩)) (hb : w.heap[b]? = some (.cells #[a0, v] 133 (0, 0))) (n : Nat) (xs : List Value) (hown : w.ownsRow 0 5 1 v n xs) (hne : v.ownBlock ≠ some b) (s : ByteArray) (h63 : n + s.size ≤ 2147483648) :
    Calls Try.prog 65 #[.pointer (some ⟨b, 0, none⟩), .string s] w fun e w' => e = .returned (.tuple #[.int .i64 s.size, .nilIface]) ∧ ∃ v', BldOut w w' b 133 5 (.pointer (some ⟨b, 0, none⟩)) v v' (n + s.size) (xs ++ Lib.strCells s) := by
  have hbw : b < w.heap.size := (Array.getElem?_eq_some_iff.1 hb).1
  have hcc := nwy' b w a0 v ha hb
  have key : ∀ w1, CcOut w w1 b 133 v → ∃ v' w2, (∀ ty, (Builtin.append_ #[23, 9] ty #[v, .string s]).run Try.prog w1 = .ok v' w2) ∧ RowOut w1 w2 5 1 v v' (n + s.size) (xs ++ Lib.strCells s) := fun w1 hc =>
    n4h' w1 Try.underlying23 Try.underlying9 (i := Try.t5) (by kernel_rfl) (by kernel_rfl) (by kernel_rfl) (by kernel_rfl) (nos' hown fun g hg => hc.rest g (fun e => hne (by rw [← e]; exact hg))) s h63
  clear hb ha hown
  go_enter Try.func65, Try.ntmps65
  go_wp2_with (go_at_call 116; refine hcc.mono ?_)
  rintro e w1 ⟨rfl, hc⟩
  obtain ⟨v', w2, hr, ho⟩ := key w1 hc
  have hout := n1b' hbw hc hne ho
  have hb1 : b < w1.heap.size := by rw [hc.size]; exact hbw
  have h2 : w2.heap[b]? = some (.cells #[.pointer (some ⟨b, 0, none⟩), v] 133 (0, 0)) := by rw [ho.grow.block b hb1 (fun e => hne e.symm)]; exact hc.cel
  have c1 : w1.cell? ⟨b, 1, none⟩ = some v := by rw [cell_of_row w1 b 1 _ 133 (0, 0) hc.cel]; rfl
  have d1 : w2.cell? ⟨b, 1, none⟩ = some v := by rw [cell_of_row w2 b 1 _ 133 (0, 0) h2]; rfl
  have f1 : w2.frozen? ⟨b, 1, none⟩ = false := by simp [World.frozen?, h2]
  obtain ⟨ao, n', cap, hv'⟩ : ∃ ao n' cap, v' = .slice ao n' cap := by
    rcases ho.row.2 with ⟨hv, _⟩ | ⟨g, cap, cur, hv, _⟩
    · exact ⟨_, _, _, hv⟩
    · exact ⟨_, _, _, hv⟩
  subst hv'
  have hO : Hid (∃ v', BldOut w (w2.setCell ⟨b, 1, none⟩ (.slice ao n' cap)) b 133 5 (.pointer (some ⟨b, 0, none⟩)) v v' (n + s.size) (xs ++ Lib.strCells s)) := ⟨_, hout⟩
  clear hout ho h2 hc key hcc hb1 hbw hne
  go_wp2_with (at_builtin; refine Lib.wpList_append_run _ rfl _ _ _ _ rfl _ _ rfl rfl _ _ (hr _) ?_)
  go_ret2
  exact ⟨rfl, hO.out⟩
theorem nyr' (b : Nat) (w : World) (a0 : Value) (g cap : Nat) (cur : Array Value) (l : List UInt8) (h0 : l ≠ []) (hb : w.heap[b]? = some (.cells #[a0, .slice (some ⟨g, 0, none⟩) l.length cap] 133 (0, 0))) (hg : w.heap[g]? = some (.cells cur 5 (0, 0))) (hn : l.length ≤ cur.size) (hcap : l.length ≤ cap) (h63 : l.length ≤ 9223372036854775807)
    (hcell : ∀ (j : Nat) (x : UInt8), l[j]? = some x → cur[j]? = some (Value.int .u8 x.toNat)) :
    Calls Try.prog 67 #[.pointer (some ⟨b, 0, none⟩)] w fun e w' => e = .returned (.string ⟨l.toArray⟩) ∧ w' = w.drew.freeze ⟨g, 0, none⟩ l.length := by
  have hl0 : l.length ≠ 0 := by simpa using h0
  have c1 : w.drew.cell? ⟨b, 1, none⟩ = some (.slice (some ⟨g, 0, none⟩) l.length cap) := by
    rw [cell_of_row w.drew b 1 _ 133 (0, 0) hb]; rfl
  have hSD : (Builtin.unsafeSliceData_ #[23] 176 #[.slice (some ⟨g, 0, none⟩) l.length cap]).run Try.prog w.drew = .ok (.pointer (some ⟨g, 0, none⟩)) w.drew :=
    Lib.run_unsafeSliceData_row _ _ _ _ _ _ (by omega)
  have hUS : (Builtin.unsafeString_ #[176, 3] 9 #[.pointer (some ⟨g, 0, none⟩), .int .i64 l.length]).run Try.prog w.drew = .ok (.string ⟨l.toArray⟩) (w.drew.freeze ⟨g, 0, none⟩ l.length) := by
    refine Lib.run_unsafeString_row w.drew 176 3 9 5 Try.underlying176 (by kernel_rfl) g cur.size (by have hg' : w.drew.heap[g]? = some (.cells cur 5 (0, 0)) := hg; simp [World.shape?, hg']) l h0 hn h63 ?_
    intro j x hx
    rw [ndj', Nat.zero_add, cell_of_row w.drew g j cur 5 (0, 0) hg]
    exact hcell j x hx
  have mixed : Try.prog.follows .mixedOrders = true := by kernel_rfl
  clear hcell hb hg
  go_enter Try.func67, Try.ntmps67
  go_wp2
  go_region_o
  all_goals (go_wp2; go_ret; exact ⟨rfl, rfl⟩)
end Go.Ovl
