/- Layer 10: a journal that Append has written says its image; what an append with any budget leaves. -/
import Derived.Test.YthdomhdippmaiaaOvSane10
namespace Go.Ovl
open Go Go.Ab
set_option maxRecDepth 100000
section
variable {s : Sto} {room half bud : Int} (hs : s.ok room) (hh : half = 0 ∨ half = 1) (hb : 0 ≤ bud)
include hs hh hb
theorem chk_at : s.chk room half bud = 0 := by
  unfold Sto.chk
  rw [if_pos hs, if_neg (by omega)]
theorem write_at {t : List UInt8} (hr : ((s.get half).size : Int) + (t.length : Int) ≤ room) : s.write room half (txt t) bud = if bud < (t.length : Int) then (s.set half (s.get half ++ txt (t.take bud.toNat)), 0, 8) else (s.set half (s.get half ++ txt t), bud - (t.length : Int), 0) := by
  have he : (txt t).extract 0 bud.toNat = txt (t.take bud.toNat) := bl_inj (by rw [bl_ext, bl_txt, bl_txt]; simp)
  unfold Sto.write
  rw [chk_at hs hh hb, if_neg (by omega), txt_size, if_neg (by omega), he]
theorem act_at (t : Sto) : s.act room half bud t = if bud = 0 then (s, 0, 8) else (t, bud - 1, 0) := by
  unfold Sto.act
  rw [chk_at hs hh hb, if_neg (by omega)]
end
theorem set_ok {s : Sto} {room half : Int} (hs : s.ok room) {x : ByteArray} (hx : (x.size : Int) ≤ room) : (s.set half x).ok room := by
  obtain ⟨h1, h2, h3, h4, h5⟩ := hs
  unfold Sto.set Sto.ok
  split
  · exact ⟨h1, h2, hx, h4, h5⟩
  · exact ⟨h1, h2, h3, hx, h5⟩
theorem sel_ok {s : Sto} {room half : Int} (hs : s.ok room) (hh : half = 0 ∨ half = 1) : Sto.ok room { s with sel := half } := by
  obtain ⟨h1, h2, h3, h4, _⟩ := hs
  exact ⟨h1, h2, h3, h4, hh⟩
theorem sel_cases {s : Sto} {room : Int} (hs : s.ok room) : s.sel = 0 ∨ s.sel = 1 := hs.2.2.2.2
theorem cur_get {s : Sto} (hh : s.sel = 0 ∨ s.sel = 1) : s.cur = s.get s.sel := by
  unfold Sto.cur Sto.get
  rcases hh with h | h <;> rw [h] <;> rfl
theorem cur_set {s : Sto} (hh : s.sel = 0 ∨ s.sel = 1) (x : ByteArray) : (s.set s.sel x).cur = x := by
  obtain ⟨h0, h1, sel⟩ := s
  rcases hh with h | h <;>
    (simp only at h
     subst h
     simp [Sto.cur, Sto.set])
theorem cur_other {s : Sto} (hh : s.sel = 0 ∨ s.sel = 1) (x : ByteArray) : (s.set (1 - s.sel) x).cur = s.cur := by
  obtain ⟨h0, h1, sel⟩ := s
  rcases hh with h | h <;>
    (simp only at h
     subst h
     simp [Sto.cur, Sto.set])
theorem sel_set (s : Sto) (half : Int) (x : ByteArray) : (s.set half x).sel = s.sel := by unfold Sto.set; split <;> rfl
theorem get_other {s : Sto} (hh : s.sel = 0 ∨ s.sel = 1) (x : ByteArray) : (s.set (1 - s.sel) x).get (1 - s.sel) = x := by
  obtain ⟨h0, h1, sel⟩ := s
  rcases hh with h | h <;>
    (simp only at h
     subst h
     simp [Sto.set, Sto.get])
theorem set_other {s : Sto} (hh : s.sel = 0 ∨ s.sel = 1) (x y : ByteArray) : (s.set (1 - s.sel) x).set (1 - s.sel) y = s.set (1 - s.sel) y := by
  obtain ⟨h0, h1, sel⟩ := s
  rcases hh with h | h <;>
    (simp only at h
     subst h
     simp [Sto.set])
theorem cur_chosen {s : Sto} (hh : s.sel = 0 ∨ s.sel = 1) (x : ByteArray) : Sto.cur { s.set (1 - s.sel) x with sel := 1 - s.sel } = x := by
  obtain ⟨h0, h1, sel⟩ := s
  rcases hh with h | h <;>
    (simp only at h
     subst h
     simp [Sto.cur, Sto.set])
theorem replay_of {b : Bldg} (hb : b.small) (hc : b.Cars.length ≤ 100) {s : Sto} {rs : List Record} {t : List UInt8} (h : bl s.cur = rs.flatMap encL ++ t) (ht : t.length < 6) (hv : ∀ r ∈ rs, validR b r = true) : replayV b s = applyL (initV b) rs := by
  unfold replayV readV
  have hl : s.cur.size = 6 * rs.length + t.length := by rw [← bl_len, h, List.length_append, enc_len]
  rw [h, read_enc hb hc ht rs s.cur.size (by omega) hv]
/-- A journal and its image. -/
structure Jst (b : Bldg) (s : Sto) (m : Img) : Prop where
  ok : s.ok b.Room
  img : ImgOK b m
  rs : ∃ rs : List Record, bl s.cur = rs.flatMap encL ∧ (∀ r ∈ rs, validR b r = true) ∧ applyL (initV b) rs = m
  fits : 18 * ((b.Cars.length : Int) + (m.Entries.length : Int)) + 6 ≤ b.Room
theorem apply_len {m : Img} (hs : SortedE m.Entries) {r : Record} (h : r.Kind = 1 → hasF (keyE r.Floor r.Dir) m.Entries = true) : (applyV m r).Entries.length ≤ m.Entries.length := by
  unfold applyV
  cases r.Kind == 4 with
  | true => exact Nat.le_refl _
  | false =>
  cases r.Kind == 5 with
  | true => exact Nat.le_refl _
  | false =>
  cases r.Kind == 6 with
  | true => exact Nat.le_refl _
  | false =>
  simp only [cond_false]
  have hf := findF_pos (c := keyE r.Floor r.Dir) 0 hs
  rw [show findF r.Floor r.Dir m.Entries 0 = _ from hf]
  cases hq : hasF (keyE r.Floor r.Dir) m.Entries with
  | false =>
    simp only [cond_false, beq_self_eq_true, cond_true]
    by_cases k1 : r.Kind = 1
    · rw [h k1] at hq; cases hq
    · rw [beq_f k1]; exact Nat.le_refl _
  | true =>
    rw [cond_true, beq_f (show ¬ ((0 + posF (keyE r.Floor r.Dir) m.Entries : Nat) : Int) = -1 by omega), cond_false]
    cases r.Kind == 2 with
    | true =>
      show (m.Entries.take _ ++ m.Entries.drop _).length ≤ _
      rw [List.length_append, List.length_take, List.length_drop]; omega
    | false =>
    cases r.Kind == 3 with
    | true => show (m.Entries.set _ _).length ≤ _; rw [List.length_set]; exact Nat.le_refl _
    | false =>
    cases r.Kind == 7 with
    | true => show (m.Entries.set _ _).length ≤ _; rw [List.length_set]; exact Nat.le_refl _
    | false => exact Nat.le_refl _
theorem fits_next {b : Bldg} {s : Sto} {m : Img} (hj : Jst b s m) {r : Record} (hv : validR b r = true) (hfull : fullV b m r = false) : 18 * ((b.Cars.length : Int) + ((applyV m r).Entries.length : Int)) + 6 ≤ b.Room := by
  have h0 := hj.fits
  have h2 := (applyV_ok hj.img hv).2
  by_cases hk : r.Kind = 1
  · cases hq : hasF (keyE r.Floor r.Dir) m.Entries with
    | true => have := apply_len hj.img.so fun _ => hq; omega
    | false =>
      unfold fullV roomV at hfull
      rw [hk, hq, Img.ok_iff.2 hj.img] at hfull
      simp at hfull
      omega
  · have := apply_len hj.img.so (r := r) fun h => absurd h hk
    omega
theorem text_len {b : Bldg} {m : Img} (h : ImgOK b m) : (((snapV m).flatMap encL).length : Int) = 18 * ((b.Cars.length : Int) + (m.Entries.length : Int)) := by
  rw [enc_len, snapV_len, h.lp]; omega
/-- Compacting with any budget. -/
theorem compact_at {b : Bldg} {s : Sto} {m : Img} (hs : s.ok b.Room) (hm : ImgOK b m) {bud : Int} (hb0 : 0 ≤ bud) (hfit : 18 * ((b.Cars.length : Int) + (m.Entries.length : Int)) ≤ b.Room) :
    (2 + 18 * ((b.Cars.length : Int) + (m.Entries.length : Int)) ≤ bud ∧ compactV b s m bud = ({ s.set (1 - s.sel) (txt ((snapV m).flatMap encL)) with sel := 1 - s.sel }, bud - (2 + 18 * ((b.Cars.length : Int) + (m.Entries.length : Int))), 0)) ∨
    (bud < 2 + 18 * ((b.Cars.length : Int) + (m.Entries.length : Int)) ∧ ∃ s', compactV b s m bud = (s', 0, 8) ∧ s'.ok b.Room ∧ s'.cur = s.cur) := by
  have hsel := sel_cases hs
  have hh : 1 - s.sel = 0 ∨ 1 - s.sel = 1 := by omega
  have hL := text_len hm
  have hroom := hs.1
  have he : s.erase b.Room (1 - s.sel) bud = if bud = 0 then (s, 0, 8) else (s.set (1 - s.sel) noB, bud - 1, 0) := act_at hs hh hb0 _
  unfold compactV
  rw [decide_eq_true hs, decide_eq_false (show ¬ bud < 0 by omega), Img.ok_iff.2 hm]
  simp only [Bool.not_true, cond_false]
  generalize hT : (snapV m).flatMap encL = T at hL ⊢
  by_cases h0 : bud = 0
  · right
    rw [he, if_pos h0]
    exact ⟨by omega, s, rfl, hs, rfl⟩
  · rw [if_neg h0] at he
    rw [he]
    have hs1 : (s.set (1 - s.sel) noB).ok b.Room := set_ok hs (by show (0 : Int) ≤ _; omega)
    have hw := write_at (t := T) hs1 hh (show 0 ≤ bud - 1 by omega) (by rw [get_other hsel]; show ((0 : Nat) : Int) + _ ≤ _; omega)
    rw [get_other hsel, set_other hsel, set_other hsel] at hw
    have nb : ∀ x : ByteArray, noB ++ x = x := fun x => bl_inj (by rw [bl_app]; rfl)
    rw [nb, nb] at hw
    simp only [beq_self_eq_true, cond_true, hw]
    by_cases h1 : bud - 1 < (T.length : Int)
    · right
      rw [if_pos h1]
      refine ⟨by omega, _, rfl, set_ok hs ?_, cur_other hsel _⟩
      rw [txt_size, List.length_take]
      omega
    · rw [if_neg h1]
      have hs2 : (s.set (1 - s.sel) (txt T)).ok b.Room := set_ok hs (by rw [txt_size]; omega)
      have hc := act_at hs2 hh (show 0 ≤ bud - 1 - (T.length : Int) by omega) { s.set (1 - s.sel) (txt T) with sel := 1 - s.sel }
      have hc' : (s.set (1 - s.sel) (txt T)).choose b.Room (1 - s.sel) (bud - 1 - (T.length : Int)) = _ := hc
      simp only [beq_self_eq_true, cond_true, hc']
      by_cases h2 : bud - 1 - (T.length : Int) = 0
      · right
        rw [if_pos h2]
        exact ⟨by omega, _, rfl, hs2, cur_other hsel _⟩
      · left
        rw [if_neg h2, show bud - 1 - (T.length : Int) - 1 = bud - (2 + 18 * ((b.Cars.length : Int) + (m.Entries.length : Int))) by omega]
        exact ⟨by omega, rfl⟩
/-- What an append costs. -/
def needV (b : Bldg) (s : Sto) (m : Img) (r : Record) : Int := if (s.cur.size : Int) + 6 ≤ b.Room then 6 else 2 + 18 * ((b.Cars.length : Int) + ((applyV m r).Entries.length : Int))
theorem append_at {b : Bldg} (hb : b.small) {s : Sto} {m : Img} (hj : Jst b s m) {r : Record} (hv : validR b r = true) (hfull : fullV b m r = false) {bud : Int} (hb0 : 0 ≤ bud) :
    (needV b s m r ≤ bud ∧ ∃ s', appendV b s m r bud = (s', applyV m r, bud - needV b s m r, 0) ∧ Jst b s' (applyV m r)) ∨
    (bud < needV b s m r ∧ ∃ s', appendV b s m r bud = (s', m, 0, 8) ∧ s'.ok b.Room ∧ replayV b s' = m) := by
  have hcars := code_cars hj.img.code
  have hc : b.Cars.length ≤ 100 := by omega
  have hm2 := (applyV_ok hj.img hv).1
  have hfit := fits_next hj hv hfull
  obtain ⟨rs, e1, e2, e3⟩ := hj.rs
  have hsel := sel_cases hj.ok
  unfold appendV
  rw [Img.ok_iff.2 hj.img, hv, decide_eq_true hj.ok, decide_eq_false (show ¬ bud < 0 by omega), hfull]
  simp only [Bool.and_self, Bool.not_true, cond_false]
  unfold needV putV
  by_cases g : (s.cur.size : Int) + 6 ≤ b.Room
  · rw [if_pos g, decide_eq_true (show (6 : Int) ≤ b.Room - (s.cur.size : Int) by omega), cond_true]
    have hw := write_at (t := encL r) hj.ok hsel hb0 (by rw [← cur_get hsel, encL_len]; omega)
    rw [encL_len, ← cur_get hsel] at hw
    rw [hw]
    by_cases h1 : bud < ((6 : Nat) : Int)
    · right
      rw [if_pos h1]
      have hl : ((encL r).take bud.toNat).length < 6 := by rw [List.length_take, encL_len]; omega
      refine ⟨by omega, _, rfl, set_ok hj.ok ?_, ?_⟩
      · rw [← bl_len, bl_app, bl_txt, List.length_append, bl_len]; omega
      · rw [replay_of hb hc (rs := rs) (t := (encL r).take bud.toNat) (by rw [cur_set hsel, bl_app, bl_txt, e1]) hl e2, e3]
    · left
      rw [if_neg h1]
      refine ⟨by omega, _, rfl, set_ok hj.ok ?_, hm2, ⟨rs ++ [r], ?_, ?_, ?_⟩, hfit⟩
      · rw [← bl_len, bl_app, bl_txt, List.length_append, bl_len, encL_len]; omega
      · rw [cur_set hsel, bl_app, bl_txt, e1, List.flatMap_append]
        simp
      · intro x hx
        rcases List.mem_append.1 hx with hx | hx
        · exact e2 x hx
        · rw [List.mem_singleton.1 hx]; exact hv
      · rw [applyL_append, e3]; rfl
  · rw [if_neg g, decide_eq_false (show ¬ (6 : Int) ≤ b.Room - (s.cur.size : Int) by omega), cond_false]
    rcases compact_at hj.ok hm2 hb0 (by omega) with ⟨q1, q2⟩ | ⟨q1, s', q2, q3, q4⟩
    · left
      rw [q2]
      refine ⟨q1, _, rfl, sel_ok (set_ok hj.ok ?_) (by omega), hm2, ⟨snapV (applyV m r), ?_, snap_valid hm2, snap_again hm2⟩, hfit⟩
      · rw [txt_size, text_len hm2]; omega
      · rw [cur_chosen hsel, bl_txt]
    · right
      rw [q2]
      refine ⟨q1, s', rfl, q3, ?_⟩
      rw [replay_of hb hc (rs := rs) (t := []) (by rw [q4, e1, List.append_nil]) (by simp) e2, e3]
theorem append_full {b : Bldg} {s : Sto} {m : Img} (hj : Jst b s m) {r : Record} (hv : validR b r = true) (hfull : fullV b m r = true) {bud : Int} (hb0 : 0 ≤ bud) : appendV b s m r bud = (Sto.no, Img.none, 0, 7) := by
  unfold appendV
  rw [Img.ok_iff.2 hj.img, hv, decide_eq_true hj.ok, decide_eq_false (show ¬ bud < 0 by omega), hfull]
  rfl
theorem Jst.replay {b : Bldg} (hb : b.small) {s : Sto} {m : Img} (hj : Jst b s m) : replayV b s = m := by
  have hcars := code_cars hj.img.code
  obtain ⟨rs, e1, e2, e3⟩ := hj.rs
  rw [replay_of hb (by omega) (rs := rs) (t := []) (by rw [e1, List.append_nil]) (by simp) e2, e3]
theorem Jst.first {b : Bldg} (hcode : b.code = 0) : Jst b Sto.no (initV b) := by
  have hr := code_room hcode
  have hcars := code_cars hcode
  refine ⟨⟨by omega, by omega, ?_, ?_, .inl rfl⟩, initV_ok hcode, ⟨[], rfl, (fun r h => by cases h), rfl⟩, ?_⟩
  · show (0 : Int) ≤ _; omega
  · show (0 : Int) ≤ _; omega
  · show 18 * ((b.Cars.length : Int) + ((0 : Nat) : Int)) + 6 ≤ _; omega
theorem Jst.ents {b : Bldg} {s : Sto} {m : Img} (hj : Jst b s m) : m.Entries.length ≤ 4000 ∧ m.fit := by
  have h1 := hj.fits
  have h2 := (code_room hj.img.code).2
  have h3 := code_cars hj.img.code
  have g1 := hj.img.lp
  have g2 := hj.img.lf
  have g3 := hj.img.ll
  exact ⟨by omega, by omega, by omega, by omega, by omega⟩
theorem ok_cur {s : Sto} {room : Int} (hs : s.ok room) : (s.cur.size : Int) ≤ room := by
  obtain ⟨_, _, h3, h4, _⟩ := hs
  unfold Sto.cur
  split
  · exact h4
  · exact h3
end Go.Ovl
