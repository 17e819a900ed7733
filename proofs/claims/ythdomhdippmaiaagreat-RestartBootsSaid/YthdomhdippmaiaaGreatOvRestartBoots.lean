/- RestartBoots: the machine that begins anew with any image and store, and that of any store, under any budget, or the first error. -/
import Derived.Test.YthdomhdippmaiaaGreatOvIsMach
import Derived.Test.YthdomhdippmaiaaGreatOvFreshR
namespace Go.Ovl
open Go Go.Ab
set_option maxRecDepth 100000
theorem n5x' {s : Sto} {k : Nat} (h0 : s.h0.size ≤ k) (h1 : s.h1.size ≤ k) : s.cur.size ≤ k := by
  unfold Sto.cur
  split
  · exact h1
  · exact h0
theorem npx' {a : Mch} (ha : a.fit) : nej' a.Image.Phases a.Image.Flags a.Image.Leaving a.Image.Entries a.Store.h0 a.Store.h1 a.Store.sel a.Contacts a.Beliefs a.Cars a.Loads a.Expect a.Lit a.Tick a.Faults a.Refused a.Image.Phases a.Image.Flags a.Image.Leaving a.Image.Entries a.Store.h0 a.Store.h1 a.Store.sel a.Contacts a.Beliefs a.Cars a.Loads a.Expect a.Lit a.Tick a.Faults a.Refused = some ((true, ()), ()) := by
  have h := ny5' ha (c := a)
  rw [nsz'] at h
  exact h
section
variable {b : Bldg} (hb : b.small) (hcode : b.code = 0) {m : Img} (hf : m.fit) (n0 n1 n2 ts : Int) (t0 t1 : ByteArray) (ss : List Store) (k j : Int)
include hb hcode
theorem nyb' {bs : List Int} (hl : bs.length ≤ 100) (hbs : ∀ v ∈ bs, v < 9223372036854775808) {s : Sto} (h0 : s.h0.size ≤ 5000) (h1 : s.h1.size ≤ 5000) :
    nc6' (((), (), (), (), (), ss, k, j, bs, (bs.length : Int), (0 : Int), ()), ((n0, n1, n2, ()), b.tup, m.tup, (t0, t1, ts, ()), (s.h0, s.h1, s.sel, ()), ())) = some (.inl (((), (), (), (), ss, k, j, ()), ((n0, n1, n2, ()), b.tup, m.tup, (t0, t1, ts, ()), ()))) := by
  have hcur := n5x' h0 h1
  refine nd' (nse' (step := fun x => nc8' x.1.2.2.2.2.2.1 x.1.2.2.2.2.2.2.1 x.1.2.2.2.2.2.2.2.1 x.1.2.2.2.2.2.2.2.2.1 x.1.2.2.2.2.2.2.2.2.2.1 x.1.2.2.2.2.2.2.2.2.2.2.1 x.2.1.1 x.2.1.2.1 x.2.1.2.2.1 x.2.2.1.1 x.2.2.1.2.1 x.2.2.1.2.2.1 x.2.2.1.2.2.2.1 x.2.2.1.2.2.2.2.1 x.2.2.1.2.2.2.2.2.1 x.2.2.1.2.2.2.2.2.2.1 x.2.2.1.2.2.2.2.2.2.2.1 x.2.2.2.1.1 x.2.2.2.1.2.1 x.2.2.2.1.2.2.1 x.2.2.2.1.2.2.2.1 x.2.2.2.2.1.1 x.2.2.2.2.1.2.1 x.2.2.2.2.1.2.2.1 x.2.2.2.2.2.1.1 x.2.2.2.2.2.1.2.1 x.2.2.2.2.2.1.2.2.1) bs.length (fun i => (((), (), (), (), (), ss, k, j, bs, (bs.length : Int), (i : Int), ()), ((n0, n1, n2, ()), b.tup, m.tup, (t0, t1, ts, ()), (s.h0, s.h1, s.sel, ()), ()))) (Sum.inl (((), (), (), (), ss, k, j, ()), ((n0, n1, n2, ()), b.tup, m.tup, (t0, t1, ts, ()), ()))) (fun i hi => ?_) ?_ bs.length 0 (by omega)) (by omega)
  · have hv := hbs _ (nd9' 0 hi)
    have e1 := nhx' hb hcode s (by omega) hv
    have e2 := nrm' hb hcode s hcur hv
    have e3 := npx' (nu3' hcode s (by omega) (bs.getD i 0))
    show nc8' ss k j bs (bs.length : Int) (i : Int) n0 n1 n2 b.Floors b.Debounce b.Room b.Park b.Empty b.Full b.Over b.Cars m.Phases m.Flags m.Leaving m.Entries t0 t1 ts s.h0 s.h1 s.sel = _
    unfold nc8'
    simp only [decide_eq_true (show (i : Int) < (bs.length : Int) by omega), nc' (show (0 : Int) ≤ (i : Int) by omega) (show (i : Int) < (bs.length : Int) by omega), cond_true, Int.toNat_natCast, e1, e2, Option.bind_some, bne_self_eq_false, cond_false, Mch.tup, e3, Bool.not_true, wrap1 hi (show bs.length ≤ nf' by unfold nf'; omega)]
    rfl
  · show nc8' ss k j bs (bs.length : Int) (bs.length : Int) n0 n1 n2 b.Floors b.Debounce b.Room b.Park b.Empty b.Full b.Over b.Cars m.Phases m.Flags m.Leaving m.Entries t0 t1 ts s.h0 s.h1 s.sel = _
    unfold nc8'
    simp only [decide_eq_false (Int.lt_irrefl (bs.length : Int)), cond_false]
    rfl
include hf
theorem nyu' (hl : ss.length ≤ 100) (hn : 0 ≤ n2 ∧ n2 < 256) (hss : ∀ x ∈ ss, x.Halves_0.size ≤ 5000 ∧ x.Halves_1.size ≤ 5000) :
    ndu' (((), (), (), (), ss, (ss.length : Int), (0 : Int), ()), ((n0, n1, n2, ()), b.tup, m.tup, (t0, t1, ts, ()), ())) = some (.inl (((), (), ()), (b.tup, (t0, t1, ts, ()), ()))) := by
  have hcc := nbt' hcode
  refine nd' (nse' (step := fun x => nc7' x.1.2.2.2.2.1 x.1.2.2.2.2.2.1 x.1.2.2.2.2.2.2.1 x.2.1.1 x.2.1.2.1 x.2.1.2.2.1 x.2.2.1.1 x.2.2.1.2.1 x.2.2.1.2.2.1 x.2.2.1.2.2.2.1 x.2.2.1.2.2.2.2.1 x.2.2.1.2.2.2.2.2.1 x.2.2.1.2.2.2.2.2.2.1 x.2.2.1.2.2.2.2.2.2.2.1 x.2.2.2.1.1 x.2.2.2.1.2.1 x.2.2.2.1.2.2.1 x.2.2.2.1.2.2.2.1 x.2.2.2.2.1.1 x.2.2.2.2.1.2.1 x.2.2.2.2.1.2.2.1) ss.length (fun i => (((), (), (), (), ss, (ss.length : Int), (i : Int), ()), ((n0, n1, n2, ()), b.tup, m.tup, (t0, t1, ts, ()), ()))) (Sum.inl (((), (), ()), (b.tup, (t0, t1, ts, ()), ()))) (fun i hi => ?_) ?_ ss.length 0 (by omega)) (by omega)
  · obtain ⟨g0, g1⟩ := hss _ (nd9' (Store.mk (ByteArray.mk (Array.mk [])) (ByteArray.mk (Array.mk [])) 0) hi)
    show nc7' ss (ss.length : Int) (i : Int) n0 n1 n2 b.Floors b.Debounce b.Room b.Park b.Empty b.Full b.Over b.Cars m.Phases m.Flags m.Leaving m.Entries t0 t1 ts = _
    unfold nc7'
    simp only [decide_eq_true (show (i : Int) < (ss.length : Int) by omega), nc' (show (0 : Int) ≤ (i : Int) by omega) (show (i : Int) < (ss.length : Int) by omega), cond_true, Int.toNat_natCast]
    generalize ss.getD i (Store.mk (ByteArray.mk (Array.mk [])) (ByteArray.mk (Array.mk [])) 0) = z at g0 g1
    let s : Sto := ⟨z.Halves_0, z.Halves_1, z.Select⟩
    have e1 : ncp' b.Floors b.Debounce b.Room b.Park b.Empty b.Full b.Over b.Cars m.Phases m.Flags m.Leaving m.Entries z.Halves_0 z.Halves_1 z.Select = _ := njp' hb m hf (by omega) s
    have e2 : nf6' b.Floors b.Debounce b.Room b.Park b.Empty b.Full b.Over b.Cars m.Phases m.Flags m.Leaving m.Entries z.Halves_0 z.Halves_1 z.Select = _ := nqi' hb m hf (by omega) s
    have e3 := npx' (nov' (b := b) hf (by omega) s)
    have e4 : nc6' (((), (), (), (), (), ss, (ss.length : Int), (i : Int), [(-1 : Int), n2, 5000], (([(-1 : Int), n2, 5000].length : Nat) : Int), (0 : Int), ()), ((n0, n1, n2, ()), b.tup, m.tup, (t0, t1, ts, ()), (z.Halves_0, z.Halves_1, z.Select, ()), ())) = _ := nyb' hb hcode n0 n1 n2 ts t0 t1 ss (ss.length : Int) (i : Int) (m := m) (bs := [-1, n2, 5000]) (by show 3 ≤ 100; omega) (by
      intro v hv
      simp only [List.mem_cons, List.not_mem_nil, or_false] at hv
      omega) (s := s) g0 g1
    simp only [Bldg.tup, Img.tup] at e4
    have e5 : (ndj' b m s).2 = 0 → nob' b (ndj' b m s).1 = true := fun h => by
      unfold ndj' at h ⊢
      cases hq : fitsV b m && decide (s.ok b.Room) with
      | false => rw [hq] at h; cases h
      | true =>
        rw [Bool.and_eq_true] at hq
        have h2 := hq.1
        unfold fitsV at h2
        rw [Bool.and_eq_true] at h2
        exact n21' hb (Img.ok_iff.1 h2.1) (of_decide_eq_true h2.2) (of_decide_eq_true hq.2)
    have e6 := nos' hb hcode (nov' (b := b) hf (by omega) s)
    rw [e1, e2]
    generalize ndj' b m s = w at e3 e5 e6 ⊢
    simp only [Option.bind_some, bne_self_eq_false, cond_false, Mch.tup, e3, Bool.not_true]
    by_cases h0 : w.2 = 0
    · rw [h0]
      rw [e5 h0] at e6
      simp only [beq_self_eq_true, cond_true, e6, Option.bind_some, Bool.not_true, cond_false, nb' (n := n2) (by omega) (by omega), e4, wrap1 hi (show ss.length ≤ nf' by unfold nf'; omega)]
      rfl
    · rw [beq_f h0]
      simp only [Option.bind_some, cond_false, nb' (n := n2) (by omega) (by omega), e4, wrap1 hi (show ss.length ≤ nf' by unfold nf'; omega)]
      rfl
  · show nc7' ss (ss.length : Int) (ss.length : Int) n0 n1 n2 b.Floors b.Debounce b.Room b.Park b.Empty b.Full b.Over b.Cars m.Phases m.Flags m.Leaving m.Entries t0 t1 ts = _
    unfold nc7'
    simp only [decide_eq_false (Int.lt_irrefl (ss.length : Int)), cond_false]
    rfl
end
theorem nrs' (n_f0 : Int) (n_f1 : Int) (n_f2 : Int) (l : List (Int)) (s_Halves_0 : ByteArray) (s_Halves_1 : ByteArray) (s_Select : Int) (h_n_f0 : 0 ≤ n_f0 ∧ n_f0 < 256) (h_n_f1 : 0 ≤ n_f1 ∧ n_f1 < 256) (h_n_f2 : 0 ≤ n_f2 ∧ n_f2 < 256) (h_l : l.length ≤ maxLen ∧ ∀ e ∈ l, (0 ≤ e ∧ e < 256)) (_h_s_Halves_0 : s_Halves_0.size ≤ maxLen) (_h_s_Halves_1 : s_Halves_1.size ≤ maxLen) (_h_s_Select : -9223372036854775808 ≤ s_Select ∧ s_Select < 9223372036854775808) : F_l26_RestartBoots n_f0 n_f1 n_f2 l s_Halves_0 s_Halves_1 s_Select = some ((true, ()), ()) := by
  unfold F_l26_RestartBoots
  by_cases g0 : (500 : Int) < (s_Halves_0.size : Int)
  · rw [decide_eq_true g0, cond_true, nry']; rfl
  by_cases g1 : (500 : Int) < (s_Halves_1.size : Int)
  · rw [decide_eq_false g0, cond_false, decide_eq_true g1, cond_true, nry']; rfl
  rw [decide_eq_false g0, cond_false, decide_eq_false g1, cond_false]
  obtain ⟨fl, ca, f1, f2, c1, c2, hbd⟩ := nq3' (n := n_f0) (room := n_f1) h_n_f0 (by omega)
  have hcode := ns2' f1 f2 c1 c2 (room := n_f1) (by omega)
  have hb : (bld10 fl ca n_f1).small := ⟨by show (2 : Int) ≤ (fl : Int); omega, by show (fl : Int) ≤ 8; omega⟩
  have hroom : (bld10 fl ca n_f1).Room = 18 * (ca : Int) + 24 + n_f1 := rfl
  have hca : (bld10 fl ca n_f1).Cars.length = ca := by simp [bld10, nbv']
  generalize bld10 fl ca n_f1 = b at *
  have hcars := nbt' hcode
  have hhi := hb.hi
  obtain ⟨m, hi, hm, hme⟩ := nt5' hb hcode (by omega) (l := l) h_l.2
  have hle := n4x' hb hm
  have hlp := hm.lp
  have hlf := hm.lf
  have hll := hm.ll
  have hf : m.fit := ⟨by omega, by omega, by omega, by omega⟩
  have hsn := nng' hb hf
  rw [show snapR b m = snapV m by unfold snapR; rw [Img.ok_iff.2 hm]; rfl] at hsn
  have hby := npq' hb (by omega) (rs := snapV m) (by rw [nnu']; omega)
  rw [now' (nmb' hm)] at hby
  have hmin : ∀ k : Nat, 0 ≤ (bif decide (b.Room < (k : Int)) then b.Room else (k : Int)) ∧ (bif decide (b.Room < (k : Int)) then b.Room else (k : Int)) ≤ (k : Int) ∧ (bif decide (b.Room < (k : Int)) then b.Room else (k : Int)) ≤ b.Room := fun k => by
    by_cases g : b.Room < (k : Int)
    · rw [decide_eq_true g, cond_true]; omega
    · rw [decide_eq_false g, cond_false]; omega
  obtain ⟨a1, a2, a3⟩ := hmin s_Halves_0.size
  obtain ⟨a4, a5, a6⟩ := hmin (txt ((snapV m).flatMap encL)).size
  rw [hbd]
  simp only [Option.bind_some, Bldg.tup]
  rw [hi]
  simp only [Option.bind_some, Img.tup, hsn, hby]
  generalize txt ((snapV m).flatMap encL) = T at *
  generalize (bif decide (b.Room < (s_Halves_0.size : Int)) then b.Room else (s_Halves_0.size : Int)) = z1 at *
  generalize (bif decide (b.Room < (T.size : Int)) then b.Room else (T.size : Int)) = z4 at *
  rw [decide_eq_true a1, decide_eq_true a2, decide_eq_true a4, decide_eq_true a5]
  simp only [Bool.and_self, cond_true]
  have x1 : (s_Halves_0.extract 0 z1.toNat).size ≤ 5000 := by rw [nr6' _ (by omega)]; omega
  have x2 : (T.extract 0 z4.toNat).size ≤ 5000 := by rw [nr6' _ (by omega)]; omega
  generalize s_Halves_0.extract 0 z1.toNat = A1 at *
  generalize T.extract 0 z4.toNat = A2 at *
  have ho := nyu' hb hcode hf n_f0 n_f1 n_f2 1 A1 A2 [Store.mk s_Halves_0 s_Halves_1 s_Select, Store.mk A1 A2 1, Store.mk A2 (ByteArray.mk (Array.mk [])) 0] (by show 3 ≤ 100; omega) h_n_f2 (by
    intro x hx
    simp only [List.mem_cons, List.not_mem_nil, or_false] at hx
    rcases hx with rfl | rfl | rfl
    · exact ⟨show s_Halves_0.size ≤ 5000 by omega, show s_Halves_1.size ≤ 5000 by omega⟩
    · exact ⟨x1, x2⟩
    · exact ⟨x2, Nat.zero_le _⟩)
  simp only [Bldg.tup, Img.tup] at ho
  rw [ho]
  simp only [Option.bind_some]
  have st0 : nck' 0 0 0 0 0 0 0 [] = some (((), 1, ()), (Mch.none.tup, ())) := by
    unfold nck'
    rw [show nby' 0 0 0 0 0 0 0 [] = _ from ncc' ⟨0, 0, 0, 0, 0, 0, 0, []⟩]
    rfl
  have st1 : ncp' b.Floors b.Debounce b.Room b.Park b.Empty b.Full b.Over b.Cars [] [] [] [] A1 A2 1 = some (((), 1, ()), (Mch.none.tup, ())) := by
    refine (njp' hb Img.none ⟨Nat.zero_le _, Nat.zero_le _, Nat.zero_le _, Nat.zero_le _⟩ (by omega) ⟨A1, A2, 1⟩).trans ?_
    have : fitsV b Img.none = false := by
      cases hq : fitsV b Img.none with
      | false => rfl
      | true =>
        unfold fitsV at hq
        rw [Bool.and_eq_true] at hq
        have hk : 0 = b.Cars.length := (Img.ok_iff.1 hq.1).lp
        omega
    unfold ndj'
    rw [this]; rfl
  have e1 := nm3' hb hcode
  have e2 := nwv' hb hcode
  have hsf : (niu' b).1.fit := by
    unfold niu'
    rw [hcode]
    exact nu3' hcode Sto.no (by decide) 1048576
  have e3 := npx' hsf
  simp only [e1, e2, st0, st1, Option.bind_some, beq_self_eq_true, cond_true, Mch.tup, e3, nry']
end Go.Ovl
