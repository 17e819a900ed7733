/- LogCalls: which calls are registered behind any records: those whose last registration is behind their last service. -/
import Derived.Test.YticbfghinhhgiaaOvSane10
import Derived.Test.YticbfghinhhgiaaOvCalls
import Derived.Test.YticbfghinhhgiaaOvBytes
namespace Go.Ovl
open Go Go.Ab
set_option maxRecDepth 100000
/-- What a record does to the calls that are wanted. -/
def wstep (c : Int × Int) (r : Record) : Int × Int :=
  bif r.Kind == 2 then minusC (bif r.Kind == 1 then unionC c (oneC r.Floor r.Dir) else c) (oneC r.Floor r.Dir) else (bif r.Kind == 1 then unionC c (oneC r.Floor r.Dir) else c)
theorem wstep_u32 {c : Int × Int} (h : u32C c) (r : Record) : u32C (wstep c r) := by
  unfold wstep
  cases r.Kind == 2 with
  | true => exact minus_u32 _ _
  | false =>
    cases r.Kind == 1 with
    | true => exact union_u32 _ _
    | false => exact h
theorem calls_loop (m : Img) {rs : List Record} (hl : rs.length ≤ 1000) : L_l10_LogCalls_0 ((rs, (), (), (0 : Int), ()), (m.tup, ((0 : Int), (0 : Int), ()), ())) = some (((), (), ()), (m.tup, ((rs.foldl wstep (0, 0)).1, (rs.foldl wstep (0, 0)).2, ()), ())) := by
  have h := iter_range (step := fun x => R_l10_LogCalls_0 x.1.1 x.1.2.2.2.1 x.2.1.1 x.2.1.2.1 x.2.1.2.2.1 x.2.1.2.2.2.1 x.2.2.1.1 x.2.2.1.2.1) rs.length (fun i (c : Int × Int) => ((rs, (), (), (i : Int), ()), (m.tup, (c.1, c.2, ()), ()))) (fun i c => wstep c (rs.getD i (Record.mk 0 0 0 0 0))) (fun _ _ => True) (fun c => (((), (), ()), (m.tup, (c.1, c.2, ()), ()))) (fun i c hi _ => by
    refine ⟨?_, trivial⟩
    show R_l10_LogCalls_0 rs (i : Int) m.Phases m.Flags m.Leaving m.Entries c.1 c.2 = _
    have ib : inB (i : Int) rs.length = true := inB_true (by omega) (by omega)
    have w := wrap1 hi (show rs.length ≤ small5 by unfold small5; omega)
    generalize hr : rs.getD i (Record.mk 0 0 0 0 0) = r
    have hu := r07_Union_is c (oneC r.Floor r.Dir)
    have hm1 := r07_Minus_is c (oneC r.Floor r.Dir)
    have hm2 := r07_Minus_is (unionC c (oneC r.Floor r.Dir)) (oneC r.Floor r.Dir)
    unfold R_l10_LogCalls_0 wstep
    simp only [decide_eq_true (show (i : Int) < (rs.length : Int) by omega), ib, cond_true, Int.toNat_natCast, hr, r07_One_is, Option.bind_some, hu]
    cases r.Kind == 1 with
    | true =>
      simp only [cond_true, Option.bind_some, ib, Int.toNat_natCast, hr, hm2]
      cases r.Kind == 2 <;> simp only [cond_true, cond_false, w] <;> rfl
    | false =>
      simp only [cond_false, cond_true, Option.bind_some, ib, Int.toNat_natCast, hr, hm1]
      cases r.Kind == 2 <;> simp only [cond_true, cond_false, w] <;> rfl) (fun c _ => by
    show R_l10_LogCalls_0 rs (rs.length : Int) m.Phases m.Flags m.Leaving m.Entries c.1 c.2 = _
    unfold R_l10_LogCalls_0
    simp only [decide_eq_false (Int.lt_irrefl (rs.length : Int)), cond_false]
    rfl) rs.length 0 (0, 0) (by omega) trivial
  have h' := iter_fuel h.1 (by omega)
  rw [foldN_foldl wstep (Record.mk 0 0 0 0 0) rs rs.length 0 (0, 0) (by omega), List.drop_zero] at h'
  exact h'
/-- The calls of an image are those that are wanted. -/
def Agree (c : Int × Int) (m : Img) : Prop := ∀ f : Nat, f < 32 → ∀ d : Int, (d = 1 ∨ d = 2) → (bitC c f d = true ↔ ((f : Int), d) ∈ m.Entries.map callOf)
theorem ltC_irr (p : Int × Int) : ¬ ltC p p := fun h => by unfold ltC at h; omega
theorem del_mem {l : List (Int × Int)} (hs : l.Pairwise ltC) {k : Nat} (hk : k < l.length) (p : Int × Int) : p ∈ l.take k ++ l.drop (k + 1) ↔ p ∈ l ∧ p ≠ l[k] := by
  have e : l = l.take k ++ l[k] :: l.drop (k + 1) := by
    rw [← List.drop_eq_getElem_cons hk, List.take_append_drop]
  have hs' := hs
  rw [e] at hs'
  obtain ⟨_, h2, h3⟩ := List.pairwise_append.1 hs'
  obtain ⟨h4, _⟩ := List.pairwise_cons.1 h2
  constructor
  · intro h
    rcases List.mem_append.1 h with h | h
    · exact ⟨List.mem_of_mem_take h, fun q => ltC_irr _ (q ▸ h3 p h l[k] (List.mem_cons_self ..))⟩
    · exact ⟨List.mem_of_mem_drop h, fun q => ltC_irr _ (q ▸ h4 p h)⟩
  · rintro ⟨h, hne⟩
    rw [e] at h
    rcases List.mem_append.1 h with h | h
    · exact List.mem_append.2 (.inl h)
    · rcases List.mem_cons.1 h with h | h
      · exact absurd h hne
      · exact List.mem_append.2 (.inr h)
theorem agree_step {b : Bldg} (hb : b.small) {c : Int × Int} {m : Img} (ha : Agree c m) (hm : ImgOK b m) {r : Record} (hv : validR b r = true) : Agree (wstep c r) (applyV m r) := by
  intro f hf d hd
  have h0 := ha f hf d hd
  have hk := (validR_kind hv).2
  have hcall : (r.Kind = 1 ∨ r.Kind = 2) → (0 ≤ r.Floor ∧ r.Floor < 32) ∧ (r.Dir = 1 ∨ r.Dir = 2) := fun h => by
    have lo := hb.lo
    have hi := hb.hi
    have hc : isCallV b r.Floor r.Dir = true := by
      rcases hk with q | q | q | q | q | q | q
      · exact q.2.1
      · exact q.2.1
      all_goals omega
    unfold isCallV callB at hc
    simp only [Bool.and_eq_true, Bool.or_eq_true, beq_iff_eq, inR_iff] at hc
    omega
  have hone : (r.Kind = 1 ∨ r.Kind = 2) → (bitC (oneC r.Floor r.Dir) f d = true ↔ ((f : Int), d) = (r.Floor, r.Dir)) := fun h => by
    obtain ⟨h1, h2⟩ := hcall h
    rw [bitC_one h1 h2 f hd, decide_eq_true_eq]
  have same : ∀ l : List Entry, l.map callOf = m.Entries.map callOf → ¬ r.Kind = 1 → ¬ r.Kind = 2 → (bitC (wstep c r) f d = true ↔ ((f : Int), d) ∈ l.map callOf) := fun l hl h1 h2 => by
    unfold wstep
    rw [beq_f h1, beq_f h2, hl]
    exact h0
  unfold applyV
  by_cases k4 : r.Kind = 4
  · rw [show (r.Kind == 4) = true by rw [k4]; rfl]
    exact same _ rfl (by omega) (by omega)
  rw [beq_f k4, cond_false]
  by_cases k5 : r.Kind = 5
  · rw [show (r.Kind == 5) = true by rw [k5]; rfl]
    exact same _ rfl (by omega) (by omega)
  rw [beq_f k5, cond_false]
  by_cases k6 : r.Kind = 6
  · rw [show (r.Kind == 6) = true by rw [k6]; rfl]
    exact same _ rfl (by omega) (by omega)
  rw [beq_f k6, cond_false]
  rcases findF_spec r.Floor r.Dir m.Entries 0 with ⟨h1, h2⟩ | ⟨k, h1, h2, h3⟩
  · rw [h1, show ((-1 : Int) == -1) = true from rfl, cond_true]
    by_cases k1 : r.Kind = 1
    · rw [show (r.Kind == 1) = true by rw [k1]; rfl, cond_true]
      have hins := insL_pos (c := ⟨r.Floor, r.Dir, -1, 0, false⟩) h2
      show _ ↔ ((f : Int), d) ∈ (insL ⟨r.Floor, r.Dir, -1, 0, false⟩ false m.Entries).map callOf
      rw [hins]
      unfold wstep
      rw [k1]
      simp only [show ((1 : Int) == 2) = false from rfl, beq_self_eq_true, cond_true, cond_false]
      rw [bitC_union, Bool.or_eq_true, h0, hone (.inl k1)]
      generalize posF ⟨r.Floor, r.Dir, -1, 0, false⟩ m.Entries = p
      conv => lhs; rw [← List.take_append_drop p m.Entries]
      simp only [List.map_append, List.mem_append, List.map_cons, List.map_nil, List.mem_singleton, callOf]
      constructor
      · rintro ((h | h) | h)
        · exact .inl (.inl h)
        · exact .inr h
        · exact .inl (.inr h)
      · rintro ((h | h) | h)
        · exact .inl (.inl h)
        · exact .inr h
        · exact .inl (.inr h)
    · rw [beq_f k1, cond_false]
      by_cases k2 : r.Kind = 2
      · unfold wstep
        rw [k2]
        simp only [show ((2 : Int) == 1) = false from rfl, beq_self_eq_true, cond_true, cond_false]
        rw [bitC_minus _ _ hf, Bool.and_eq_true, h0, Bool.not_eq_true', ← Bool.not_eq_true, hone (.inr k2)]
        refine ⟨fun h => h.1, fun h => ⟨h, fun q => ?_⟩⟩
        obtain ⟨e, he, hq⟩ := List.mem_map.1 h
        have := h2 e he
        rw [isC_iff.2 (hq.trans q)] at this
        cases this
      · exact same _ rfl k1 k2
  · rw [Nat.zero_add] at h2
    rw [h2, beq_f (show ¬ (k : Int) = -1 by omega), cond_false, Int.toNat_natCast]
    have hkc : callOf (m.Entries.getD k noE) = (r.Floor, r.Dir) := isC_iff.1 h3
    have hget : m.Entries.getD k noE = m.Entries[k] := by simp [h1]
    by_cases k2 : r.Kind = 2
    · rw [show (r.Kind == 2) = true by rw [k2]; rfl, cond_true]
      show _ ↔ ((f : Int), d) ∈ (m.Entries.take k ++ m.Entries.drop (k + 1)).map callOf
      have hd1 := del_mem (l := m.Entries.map callOf) hm.so (k := k) (by rw [List.length_map]; exact h1) ((f : Int), d)
      rw [List.map_append, List.map_take, List.map_drop, hd1, List.getElem_map, ← hget, hkc]
      unfold wstep
      rw [k2]
      simp only [show ((2 : Int) == 1) = false from rfl, beq_self_eq_true, cond_true, cond_false]
      rw [bitC_minus _ _ hf, Bool.and_eq_true, h0, Bool.not_eq_true', ← Bool.not_eq_true, hone (.inr k2)]
    · rw [beq_f k2, cond_false]
      by_cases k1 : r.Kind = 1
      · rw [k1]
        simp only [show ((1 : Int) == 3) = false from rfl, show ((1 : Int) == 7) = false from rfl, cond_false]
        unfold wstep
        rw [k1]
        simp only [show ((1 : Int) == 2) = false from rfl, beq_self_eq_true, cond_true, cond_false]
        rw [bitC_union, Bool.or_eq_true, h0, hone (.inl k1)]
        refine ⟨fun h => ?_, fun h => .inl h⟩
        rcases h with h | h
        · exact h
        · rw [h, ← hkc]
          exact List.mem_map.2 ⟨_, getD_mem noE h1, rfl⟩
      · by_cases k3 : r.Kind = 3
        · rw [show (r.Kind == 3) = true by rw [k3]; rfl, cond_true]
          exact same _ (map_set_same h1 rfl) k1 k2
        · rw [beq_f k3, cond_false]
          by_cases k7 : r.Kind = 7
          · rw [show (r.Kind == 7) = true by rw [k7]; rfl, cond_true]
            exact same _ (map_set_same h1 rfl) k1 k2
          · rw [beq_f k7, cond_false]
            exact same _ rfl k1 k2
theorem agree_all {b : Bldg} (hb : b.small) : ∀ (rs : List Record) {c : Int × Int} {m : Img}, Agree c m → u32C c → ImgOK b m → (∀ r ∈ rs, validR b r = true) → Agree (rs.foldl wstep c) (applyL m rs) ∧ u32C (rs.foldl wstep c) ∧ ImgOK b (applyL m rs)
  | [], _, _, h, hu, hm, _ => ⟨h, hu, hm⟩
  | r :: t, _c, _m, h, hu, hm, hv => agree_all hb t (agree_step hb h hm (hv r (List.mem_cons_self ..))) (wstep_u32 hu r) (applyV_ok hm (hv r (List.mem_cons_self ..))).1 fun x hx => hv x (List.mem_cons_of_mem _ hx)
/-- The same building with another room. -/
def Bldg.withRoom (b : Bldg) (k : Int) : Bldg := { b with Room := k }
theorem room_code {b : Bldg} (h : b.code = 0) {k : Int} (hk : 18 * (b.Cars.length : Int) + 24 ≤ k ∧ k ≤ 65536) : (b.withRoom k).code = 0 := by
  have hr := code_room h
  have e : inR (18 * (b.Cars.length : Int) + 24) 65536 b.Room = inR (18 * (b.Cars.length : Int) + 24) 65536 k := by rw [inR_iff.2 hr, inR_iff.2 hk]
  unfold Bldg.code at h ⊢
  rw [e] at h
  exact h
theorem room_valid {b : Bldg} (h : b.code = 0) {k : Int} (hk : (b.withRoom k).code = 0) (r : Record) : validR (b.withRoom k) r = validR b r := by
  unfold validR carR isCallV
  rw [h, hk]
  rfl
theorem law_LogCalls (n : Int) (l : List (Int)) (h_n : 0 ≤ n ∧ n < 256) (h_l : l.length ≤ maxLen ∧ ∀ e ∈ l, (0 ≤ e ∧ e < 256)) : F_l10_LogCalls n l = some ((true, ()), ()) := by
  obtain ⟨fl, ca, f1, f2, c1, c2, hbd⟩ := F_l10_Building_eq (n := n) (room := 255) h_n (by omega)
  have hcode0 := bld10_code f1 f2 c1 c2 (room := 255) (by omega)
  have hb0 : (bld10 fl ca 255).small := ⟨by show (2 : Int) ≤ (fl : Int); omega, by show (fl : Int) ≤ 8; omega⟩
  have hca : (bld10 fl ca 255).Cars.length = ca := by simp [bld10, sample]
  generalize bld10 fl ca 255 = b0 at *
  have hcars0 := code_cars hcode0
  obtain ⟨rs, hrs, hrl, hv0⟩ := Records_eq hb0 hcode0 (by omega) (l := l) h_l.2 (most := 60) (by omega)
  have hcode : (b0.withRoom (6 * (rs.length : Int) + 200)).code = 0 := room_code hcode0 (by rw [hca]; omega)
  have hv : ∀ r ∈ rs, validR (b0.withRoom (6 * (rs.length : Int) + 200)) r = true := fun r hr => by rw [room_valid hcode0 hcode]; exact hv0 r hr
  have hb : (b0.withRoom (6 * (rs.length : Int) + 200)).small := ⟨hb0.lo, hb0.hi⟩
  have hbf : F_r10_Bytes b0.Floors b0.Debounce (6 * (rs.length : Int) + 200) b0.Park b0.Empty b0.Full b0.Over b0.Cars rs = _ := r10_Bytes_eq hb (show b0.Cars.length ≤ 100 by omega) (by omega)
  have hrf := fun s hs => log_Replay_eq hb hcode s hs
  have hrf' : ∀ s : Sto, s.cur.size ≤ 500000 → F_log_Replay b0.Floors b0.Debounce (6 * (rs.length : Int) + 200) b0.Park b0.Empty b0.Full b0.Over b0.Cars s.h0 s.h1 s.sel = _ := hrf
  have hcl : (b0.withRoom (6 * (rs.length : Int) + 200)).Cars.length ≤ 100 := by show b0.Cars.length ≤ 100; omega
  generalize b0.withRoom (6 * (rs.length : Int) + 200) = b at *
  rw [flat_enc hv] at hbf
  have hread : replayV b ⟨txt (rs.flatMap encL), txt [], 0⟩ = applyL (initV b) rs := by
    unfold replayV readV
    rw [show Sto.cur ⟨txt (rs.flatMap encL), txt [], 0⟩ = txt (rs.flatMap encL) from rfl, bl_txt, txt_size, enc_len]
    have := read_enc hb hcl (t := []) (by simp) rs (6 * rs.length) (by omega) hv
    rw [List.append_nil] at this
    rw [this]
  have hrp := hrf' ⟨txt (rs.flatMap encL), txt [], 0⟩ (by
    rw [show Sto.cur ⟨txt (rs.flatMap encL), txt [], 0⟩ = txt (rs.flatMap encL) from rfl, txt_size, enc_len]; omega)
  rw [hread] at hrp
  obtain ⟨ag, hu, hmo⟩ := agree_all hb rs (c := (0, 0)) (m := initV b) (fun f _ d _ => by rw [bitC_zero]; exact ⟨(fun h => by cases h), (fun h => by cases h)⟩) zero_u32 (initV_ok hcode) hv
  have hlen := (applyL_ok (initV_ok hcode) hv).2
  have hce : ∀ e ∈ (applyL (initV b) rs).Entries, callE e := fun e he => by
    have lo := hb.lo
    have hi := hb.hi
    have h1 := (entOK_iff.1 (hmo.en e he)).1
    unfold isCallV callB at h1
    simp only [Bool.and_eq_true, Bool.or_eq_true, beq_iff_eq, inR_iff] at h1
    unfold callE
    omega
  have hw := calls_loop (applyL (initV b) rs) (rs := rs) (by omega)
  have hi0 : (initV b).Entries.length = 0 := rfl
  generalize applyL (initV b) rs = m at *
  generalize rs.foldl wstep (0, 0) = c at *
  have hof := r07_Of_is (l := m.Entries) (by omega)
  have heq : ofC m.Entries (0, 0) = c := calls_ext (ofC_u32 _ zero_u32) hu fun f hf d hd => by
    rw [Bool.eq_iff_iff, ofC_bit hce f hd, bitC_zero, ag f hf d hd]
    simp
  rw [heq] at hof
  have hcnt := r07_Count_is hu
  rw [← count_of hmo.so hce ag] at hcnt
  unfold F_l10_LogCalls
  rw [hbd]
  simp only [Option.bind_some, Bldg.tup]
  rw [hrs]
  simp only [Option.bind_some]
  rw [wrap_small (n := 6 * (rs.length : Int)) (by omega) (by omega), wrap_small (n := 6 * (rs.length : Int) + 200) (by omega) (by omega), hbf]
  simp only [Option.bind_some]
  rw [show F_log_Replay b0.Floors b0.Debounce (6 * (rs.length : Int) + 200) b0.Park b0.Empty b0.Full b0.Over b0.Cars (txt (rs.flatMap encL)) (ByteArray.mk (Array.mk [])) 0 = _ from hrp]
  simp only [Option.bind_some, Img.tup]
  simp only [Img.tup] at hw
  rw [hw]
  simp only [Option.bind_some, hof, beq_self_eq_true, Bool.and_self, cond_true, hcnt, l10_sane]
end Go.Ovl
