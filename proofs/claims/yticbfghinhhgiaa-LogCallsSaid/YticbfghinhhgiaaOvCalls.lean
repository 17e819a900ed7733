/- Layer 7: sets of calls, by the reference: which calls are in them, and how many. -/
import Derived.Test.YticbfghinhhgiaaOvBits2
import Derived.Test.YticbfghinhhgiaaOvMadeImg
import Derived.Test.YticbfghinhhgiaaOvLog4
namespace Go.Ovl
open Go Go.Ab
set_option maxRecDepth 100000
def powC (floor : Int) : Int := IntKind.u32.wrap (1 * 2 ^ min (Int.toNat floor) (IntKind.bits .u32))
def oneC (floor dir : Int) : Int × Int :=
  bif inR 0 31 floor then (bif dir == 1 then (powC floor, 0) else bif dir == 2 then (0, powC floor) else (0, 0)) else (0, 0)
theorem r07_One_is (floor dir : Int) : F_r07_One floor dir = some (((), ()), (((oneC floor dir).1, (oneC floor dir).2, ()), ())) := by
  unfold F_r07_One oneC inR
  by_cases g : floor < 0
  · rw [decide_eq_true g, decide_eq_false (show ¬ 0 ≤ floor by omega)]; rfl
  · rw [decide_eq_false g, decide_eq_true (show 0 ≤ floor by omega)]
    by_cases g' : 31 < floor
    · rw [decide_eq_true g', decide_eq_false (show ¬ floor ≤ 31 by omega)]; rfl
    · rw [decide_eq_false g', decide_eq_true (show floor ≤ 31 by omega)]
      have w : IntKind.u64.wrap floor = floor := wrap_u64 (by omega) (by omega)
      simp only [cond_false, w, decide_eq_true (show 0 ≤ floor by omega), cond_true, Bool.and_self]
      cases dir == 1 <;> cases dir == 2 <;> rfl
def orC (a c : Int) : Int := vb (bv a ||| bv c)
def minC (a c : Int) : Int := vb (bv a &&& ~~~ bv c)
def unionC (a c : Int × Int) : Int × Int := (orC a.1 c.1, orC a.2 c.2)
def minusC (a c : Int × Int) : Int × Int := (minC a.1 c.1, minC a.2 c.2)
theorem r07_Union_is (a c : Int × Int) : F_r07_Union a.1 a.2 c.1 c.2 = some (((), ()), (((unionC a c).1, (unionC a c).2, ()), ())) := by
  unfold F_r07_Union
  rw [w_or, w_or]; rfl
theorem r07_Minus_is (a c : Int × Int) : F_r07_Minus a.1 a.2 c.1 c.2 = some (((), ()), (((minusC a c).1, (minusC a c).2, ()), ())) := by
  unfold F_r07_Minus
  rw [w_andNot, w_andNot]; rfl
/-- Whether a call is in a set. -/
def bitC (c : Int × Int) (f : Nat) (d : Int) : Bool := bif d == 1 then bitF c.1 f else bif d == 2 then bitF c.2 f else false
def u32C (c : Int × Int) : Prop := (0 ≤ c.1 ∧ c.1 < 4294967296) ∧ (0 ≤ c.2 ∧ c.2 < 4294967296)
theorem union_u32 (a c : Int × Int) : u32C (unionC a c) := ⟨vb_bound _, vb_bound _⟩
theorem minus_u32 (a c : Int × Int) : u32C (minusC a c) := ⟨vb_bound _, vb_bound _⟩
theorem zero_u32 : u32C (0, 0) := ⟨⟨by decide, by decide⟩, ⟨by decide, by decide⟩⟩
theorem bitF_zero (i : Nat) : bitF 0 i = false := by
  unfold bitF bv
  simp
theorem bitC_zero (f : Nat) (d : Int) : bitC (0, 0) f d = false := by
  unfold bitC
  simp only [bitF_zero]
  cases d == 1 <;> cases d == 2 <;> rfl
theorem bitC_union (a c : Int × Int) (f : Nat) (d : Int) : bitC (unionC a c) f d = (bitC a f d || bitC c f d) := by
  unfold bitC unionC orC
  simp only [bit_vb, BitVec.getLsbD_or]
  cases d == 1 <;> cases d == 2 <;> rfl
theorem bitC_minus (a c : Int × Int) {f : Nat} (hf : f < 32) (d : Int) : bitC (minusC a c) f d = (bitC a f d && !bitC c f d) := by
  unfold bitC minusC minC
  simp only [bit_vb, BitVec.getLsbD_and, BitVec.getLsbD_not, hf, decide_true, Bool.true_and]
  cases d == 1 <;> cases d == 2 <;> rfl
theorem bitC_one {F D : Int} (hF : 0 ≤ F ∧ F < 32) (hD : D = 1 ∨ D = 2) (f : Nat) {d : Int} (hd : d = 1 ∨ d = 2) : bitC (oneC F D) f d = decide (((f : Int), d) = (F, D)) := by
  have hp : bitF (powC F) f = decide (f = F.toNat) := bit_pow (k := F.toNat) (by omega) f
  have e : decide (((f : Int), d) = (F, D)) = (decide (f = F.toNat) && decide (d = D)) := by
    rw [Bool.eq_iff_iff, Bool.and_eq_true, decide_eq_true_eq, decide_eq_true_eq, decide_eq_true_eq, Prod.mk.injEq]
    constructor
    · rintro ⟨h1, h2⟩; exact ⟨by omega, h2⟩
    · rintro ⟨h1, h2⟩; exact ⟨by omega, h2⟩
  rw [e]
  unfold oneC bitC
  rw [inR_iff.2 ⟨hF.1, show F ≤ 31 by omega⟩]
  rcases hD with rfl | rfl <;> rcases hd with rfl | rfl
  · simp [hp]
  · simp [bitF_zero]
  · simp [bitF_zero]
  · simp [hp]
theorem calls_ext {a c : Int × Int} (ha : u32C a) (hc : u32C c) (h : ∀ f : Nat, f < 32 → ∀ d : Int, (d = 1 ∨ d = 2) → bitC a f d = bitC c f d) : a = c := by
  have h1 : a.1 = c.1 := bit_ext ha.1 hc.1 fun i hi => h i hi 1 (.inl rfl)
  have h2 : a.2 = c.2 := bit_ext ha.2 hc.2 fun i hi => h i hi 2 (.inr rfl)
  exact Prod.ext h1 h2
/-- A call of any building. -/
def callE (e : Entry) : Prop := (0 ≤ e.Floor ∧ e.Floor < 32) ∧ (e.Dir = 1 ∨ e.Dir = 2)
def ofC : List Entry → Int × Int → Int × Int
  | [], c => c
  | e :: t, c => ofC t (unionC c (oneC e.Floor e.Dir))
theorem ofC_u32 : ∀ (l : List Entry) {c : Int × Int}, u32C c → u32C (ofC l c)
  | [], _, h => h
  | _ :: t, _, _ => ofC_u32 t (union_u32 _ _)
theorem ofC_bit : ∀ {l : List Entry} {c : Int × Int}, (∀ e ∈ l, callE e) → ∀ (f : Nat) {d : Int}, (d = 1 ∨ d = 2) → (bitC (ofC l c) f d = true ↔ bitC c f d = true ∨ ((f : Int), d) ∈ l.map callOf)
  | [], _, _, f, d, _ => by simp [ofC]
  | e :: t, c, h, f, d, hd => by
    have he := h e (List.mem_cons_self ..)
    simp only [ofC]
    rw [ofC_bit (fun x hx => h x (List.mem_cons_of_mem _ hx)) f hd, bitC_union, bitC_one he.1 he.2 f hd, Bool.or_eq_true, decide_eq_true_eq, List.map_cons, List.mem_cons]
    show (_ ∨ _ = (e.Floor, e.Dir)) ∨ _ ↔ _ ∨ _ = (e.Floor, e.Dir) ∨ _
    exact or_assoc
theorem r07_Of_is {l : List Entry} (hl : l.length ≤ 100000) : F_r07_Of l = some (((), ()), (((ofC l (0, 0)).1, (ofC l (0, 0)).2, ()), ())) := by
  have h := iter_range (step := fun x => R_r07_Of_0 x.1.1 x.1.2.2.2.1 x.2.1.1 x.2.1.2.1 x.2.2.1.1 x.2.2.1.2.1) l.length (fun i (c : Int × Int) => ((l, (), (), (i : Int), ()), (((0 : Int), (0 : Int), ()), (c.1, c.2, ()), ()))) (fun i c => unionC c (oneC (l.getD i noE).Floor (l.getD i noE).Dir)) (fun _ _ => True) (fun c => (((), (), ()), (((0 : Int), (0 : Int), ()), (c.1, c.2, ()), ()))) (fun i c hi _ => by
    refine ⟨?_, trivial⟩
    show R_r07_Of_0 l (i : Int) 0 0 c.1 c.2 = _
    unfold R_r07_Of_0
    rw [show Entry.mk 0 0 0 0 false = noE from rfl]
    have hu := r07_Union_is c (oneC (l.getD i noE).Floor (l.getD i noE).Dir)
    simp only [decide_eq_true (show (i : Int) < (l.length : Int) by omega), inB_true (show (0 : Int) ≤ (i : Int) by omega) (show (i : Int) < (l.length : Int) by omega), cond_true, Int.toNat_natCast, r07_One_is, Option.bind_some, hu, wrap1 hi (show l.length ≤ small5 by unfold small5; omega)]) (fun c _ => by
    show R_r07_Of_0 l (l.length : Int) 0 0 c.1 c.2 = _
    unfold R_r07_Of_0
    simp only [decide_eq_false (Int.lt_irrefl (l.length : Int)), cond_false]) l.length 0 (0, 0) (by omega) trivial
  have h' := iter_fuel h.1 (by omega)
  have e : ∀ (l : List Entry) (c : Int × Int), l.foldl (fun c e => unionC c (oneC e.Floor e.Dir)) c = ofC l c := fun l => by
    induction l with
    | nil => exact fun c => rfl
    | cons a t ih => exact fun c => ih _
  have e2 : ∀ (k i : Nat) (c : Int × Int), i + k = l.length → foldN (fun i c => unionC c (oneC (l.getD i noE).Floor (l.getD i noE).Dir)) k i c = ofC (l.drop i) c := by
    intro k
    induction k with
    | zero =>
      intro i c hi
      obtain rfl : i = l.length := by omega
      rw [List.drop_length]; rfl
    | succ k ih =>
      intro i c hi
      rw [drop_getD noE (show i < l.length by omega)]
      exact ih (i + 1) _ (by omega)
  rw [e2 l.length 0 (0, 0) (by omega), List.drop_zero] at h'
  unfold F_r07_Of
  rw [show L_r07_Of_0 ((l, (), (), (0 : Int), ()), (((0 : Int), (0 : Int), ()), ((0 : Int), (0 : Int), ()), ())) = _ from h']
  rfl
/-! ### How many calls -/
theorem r07_Has_is {c : Int × Int} (hc : u32C c) {f : Nat} (hf : f < 32) {d : Int} (hd : d = 1 ∨ d = 2) : F_r07_Has c.1 c.2 (f : Int) d = some ((bitC c f d, ()), ()) := by
  have w : IntKind.u64.wrap (f : Int) = (f : Int) := wrap_u64 (by omega) (by omega)
  have t1 := bit_test hc.1 hf
  have t2 := bit_test hc.2 hf
  unfold F_r07_Has bitC
  rw [decide_eq_false (show ¬ (f : Int) < 0 by omega), decide_eq_false (show ¬ (31 : Int) < (f : Int) by omega)]
  simp only [cond_false, w, decide_eq_true (show (0 : Int) ≤ (f : Int) by omega), cond_true, Int.toNat_natCast, stk_eq, t1, t2]
  rcases hd with rfl | rfl
  · simp only [beq_self_eq_true, cond_true, show ((1 : Int) == 2) = false from rfl, cond_false]
    cases bitF c.1 f <;> rfl
  · simp only [show ((2 : Int) == 1) = false from rfl, cond_false, beq_self_eq_true, cond_true, Option.bind_some]
def entsAt (c : Int × Int) (f : Nat) : List Entry := (bif bitC c f 1 then [⟨(f : Int), 1, -1, 0, false⟩] else []) ++ (bif bitC c f 2 then [⟨(f : Int), 2, -1, 0, false⟩] else [])
theorem entsAt_len (c : Int × Int) (f : Nat) : (entsAt c f).length ≤ 2 := by
  unfold entsAt
  cases bitC c f 1 <;> cases bitC c f 2 <;> simp
theorem List_inner {c : Int × Int} (hc : u32C c) {f : Nat} (hf : f < 32) {out : List Entry} (ho : out.length ≤ 1000) : L_r07_List_1 (((), out, (f : Int), (1 : Int), ()), ((c.1, c.2, ()), ())) = some (((), out ++ entsAt c f, (f : Int), ()), ((c.1, c.2, ()), ())) := by
  have b1 : ∀ (l : List Entry) (e : Entry), l.length ≤ 1001 → Nat.ble (l.length + [e].length) 2147483648 = true := fun l e h => ble_true (by rw [List.length_singleton]; omega)
  have r : ∀ (l : List Entry) (d : Int), l.length ≤ 1001 → (d = 1 ∨ d = 2) → R_r07_List_1 l (f : Int) d c.1 c.2 = some (.inl (((), l ++ (bif bitC c f d then [⟨(f : Int), d, -1, 0, false⟩] else []), (f : Int), d + 1, ()), ((c.1, c.2, ()), ()))) := fun l d hl hd => by
    unfold R_r07_List_1
    rw [decide_eq_true (show d ≤ 2 by omega), r07_Has_is hc hf hd, wrap_small (n := d + 1) (by omega) (by omega)]
    simp only [cond_true, Option.bind_some, b1 l _ hl]
    cases bitC c f d
    · simp
    · rfl
  have h : iter (fun x => R_r07_List_1 x.1.2.1 x.1.2.2.1 x.1.2.2.2.1 x.2.1.1 x.2.1.2.1) 3 (((), out, (f : Int), (1 : Int), ()), ((c.1, c.2, ()), ())) = some (((), out ++ entsAt c f, (f : Int), ()), ((c.1, c.2, ()), ())) := by
    refine (iter_inl (r out 1 (by omega) (.inl rfl))).trans ?_
    refine (iter_inl (r _ 2 ?_ (.inr rfl))).trans ?_
    · rw [List.length_append]
      cases bitC c f 1 <;> simp <;> omega
    · rw [List.append_assoc]
      exact iter_inr rfl
  exact iter_fuel h (by omega)
def listC (c : Int × Int) : List Entry := (List.range' 0 32).flatMap (entsAt c)
theorem r07_Count_is {c : Int × Int} (hc : u32C c) : F_r07_Count c.1 c.2 = some ((((listC c).length : Int), ()), ()) := by
  have h := iter_range (step := fun x => R_r07_List_0 x.1.2.1 x.1.2.2.1 x.2.1.1 x.2.1.2.1) 32 (fun f out => (((), out, (f : Int), ()), ((c.1, c.2, ()), ()))) (fun f out => out ++ entsAt c f) (fun f out => out.length ≤ 2 * f) (fun out => ((out, ()), ())) (fun f out hf ho => by
    have := entsAt_len c f
    refine ⟨?_, by rw [List.length_append]; omega⟩
    show R_r07_List_0 out (f : Int) c.1 c.2 = _
    unfold R_r07_List_0
    rw [decide_eq_true (show (f : Int) < 32 by omega), List_inner hc hf (by omega)]
    simp only [cond_true, Option.bind_some, wrap_small (n := (f : Int) + 1) (by omega) (by omega)]
    rfl) (fun out _ => rfl) 32 0 [] (by omega) (by simp)
  have h' := iter_fuel h.1 (by omega)
  rw [foldN_app, List.nil_append] at h'
  unfold F_r07_Count F_r07_List
  rw [show L_r07_List_0 (((), ([] : List Entry), (0 : Int), ()), ((c.1, c.2, ()), ())) = _ from h']
  rfl
theorem mem_entsAt {c : Int × Int} {f : Nat} {p : Int × Int} : p ∈ (entsAt c f).map callOf ↔ p.1 = (f : Int) ∧ (p.2 = 1 ∨ p.2 = 2) ∧ bitC c f p.2 = true := by
  obtain ⟨a, d⟩ := p
  unfold entsAt
  rw [List.map_append, List.mem_append]
  have h : ∀ D : Int, (a, d) ∈ (bif bitC c f D then [Entry.mk (f : Int) D (-1) 0 false] else []).map callOf ↔ a = (f : Int) ∧ d = D ∧ bitC c f D = true := fun D => by
    cases bitC c f D <;> simp [callOf]
  rw [h, h]
  constructor
  · rintro (⟨h1, rfl, h3⟩ | ⟨h1, rfl, h3⟩)
    · exact ⟨h1, .inl rfl, h3⟩
    · exact ⟨h1, .inr rfl, h3⟩
  · rintro ⟨h1, h2, h3⟩
    simp only at h1 h2 h3
    rcases h2 with rfl | rfl
    · exact .inl ⟨h1, rfl, h3⟩
    · exact .inr ⟨h1, rfl, h3⟩
theorem mem_range {c : Int × Int} {p : Int × Int} {i k : Nat} : p ∈ ((List.range' i k).flatMap (entsAt c)).map callOf ↔ ∃ f : Nat, (i ≤ f ∧ f < i + k) ∧ p.1 = (f : Int) ∧ (p.2 = 1 ∨ p.2 = 2) ∧ bitC c f p.2 = true := by
  constructor
  · intro h
    obtain ⟨e, he, rfl⟩ := List.mem_map.1 h
    obtain ⟨f, hf, he⟩ := List.mem_flatMap.1 he
    exact ⟨f, List.mem_range'_1.1 hf, mem_entsAt.1 (List.mem_map.2 ⟨e, he, rfl⟩)⟩
  · rintro ⟨f, hf, h⟩
    obtain ⟨e, he, h2⟩ := List.mem_map.1 (mem_entsAt.2 h)
    exact List.mem_map.2 ⟨e, List.mem_flatMap.2 ⟨f, List.mem_range'_1.2 hf, he⟩, h2⟩
theorem sorted_range (c : Int × Int) : ∀ k i : Nat, SortedE ((List.range' i k).flatMap (entsAt c))
  | 0, i => by simp [SortedE]
  | k + 1, i => by
    unfold SortedE
    rw [List.range'_succ, List.flatMap_cons, List.map_append, List.pairwise_append]
    refine ⟨?_, sorted_range c k (i + 1), fun p hp q hq => ?_⟩
    · unfold entsAt
      cases bitC c i 1 <;> cases bitC c i 2 <;> simp [callOf, ltC]
    · have h1 := mem_entsAt.1 hp
      obtain ⟨f, hf, h2, _⟩ := mem_range.1 hq
      left
      rw [h1.1, h2]
      omega
/-- Two rows in order with the same calls are equally long. -/
theorem sorted_len : ∀ {l k : List (Int × Int)}, l.Pairwise ltC → k.Pairwise ltC → (∀ p, p ∈ l ↔ p ∈ k) → l.length = k.length
  | [], [], _, _, _ => rfl
  | [], b :: u, _, _, h => by have := (h b).2 (List.mem_cons_self ..); cases this
  | a :: t, [], _, _, h => by have := (h a).1 (List.mem_cons_self ..); cases this
  | a :: t, b :: u, hl, hk, h => by
    obtain ⟨l1, l2⟩ := List.pairwise_cons.1 hl
    obtain ⟨k1, k2⟩ := List.pairwise_cons.1 hk
    have irr : ∀ p : Int × Int, ¬ ltC p p := fun p hp => by unfold ltC at hp; omega
    have asy : ∀ p q : Int × Int, ltC p q → ¬ ltC q p := fun p q hp hq => by unfold ltC at hp hq; omega
    have hab : a = b := by
      rcases List.mem_cons.1 ((h a).1 (List.mem_cons_self ..)) with e | ha
      · exact e
      · rcases List.mem_cons.1 ((h b).2 (List.mem_cons_self ..)) with e | hb
        · exact e.symm
        · exact absurd (k1 a ha) (asy _ _ (l1 b hb))
    subst hab
    rw [List.length_cons, List.length_cons, sorted_len l2 k2 fun p => ?_]
    constructor
    · intro hp
      rcases List.mem_cons.1 ((h p).1 (List.mem_cons_of_mem _ hp)) with rfl | hq
      · exact absurd (l1 p hp) (irr p)
      · exact hq
    · intro hp
      rcases List.mem_cons.1 ((h p).2 (List.mem_cons_of_mem _ hp)) with rfl | hq
      · exact absurd (k1 p hp) (irr p)
      · exact hq
theorem count_of {c : Int × Int} {l : List Entry} (hs : SortedE l) (hl : ∀ e ∈ l, callE e) (h : ∀ f : Nat, f < 32 → ∀ d : Int, (d = 1 ∨ d = 2) → (bitC c f d = true ↔ ((f : Int), d) ∈ l.map callOf)) : l.length = (listC c).length := by
  have e := sorted_len hs (sorted_range c 32 0) fun p => by
    rw [mem_range]
    constructor
    · intro hp
      obtain ⟨e, he, rfl⟩ := List.mem_map.1 hp
      obtain ⟨h1, h2⟩ := hl e he
      refine ⟨e.Floor.toNat, by omega, by show e.Floor = _; omega, h2, ?_⟩
      refine (h e.Floor.toNat (by omega) e.Dir h2).2 ?_
      rw [show ((e.Floor.toNat : Nat) : Int) = e.Floor by omega]
      exact hp
    · rintro ⟨f, hf, h1, h2, h3⟩
      have := (h f (by omega) p.2 h2).1 h3
      rw [← h1] at this
      exact this
  simpa [listC] using e
end Go.Ovl
