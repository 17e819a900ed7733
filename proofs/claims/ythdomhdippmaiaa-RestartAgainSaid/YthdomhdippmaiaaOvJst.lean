/- Layer 10: a journal that Append has written says its image; what an append with any budget leaves. -/
import Derived.Test.YthdomhdippmaiaaOvSane10
namespace Go.Ovl
open Go Go.Ab
set_option maxRecDepth 100000
section
variable {s : Sto} {room half bud : Int} (hs : s.ok room) (hh : half = 0 ∨ half = 1) (hb : 0 ≤ bud)
include hs hh hb
theorem ny7' : s.chk room half bud = 0 := by
  unfold Sto.chk
  rw [if_pos hs, if_neg (by omega)]
theorem ntz' {t : List UInt8} (hr : ((s.get half).size : Int) + (t.length : Int) ≤ room) : s.write room half (txt t) bud = if bud < (t.length : Int) then (s.set half (s.get half ++ txt (t.take bud.toNat)), 0, 8) else (s.set half (s.get half ++ txt t), bud - (t.length : Int), 0) := by
  have he : (txt t).extract 0 bud.toNat = txt (t.take bud.toNat) := nnx' (by rw [nqy', ncl', ncl']; simp)
  unfold Sto.write
  rw [ny7' hs hh hb, if_neg (by omega), nbf', if_neg (by omega), he]
theorem ny0' (t : Sto) : s.act room half bud t = if bud = 0 then (s, 0, 8) else (t, bud - 1, 0) := by
  unfold Sto.act
  rw [ny7' hs hh hb, if_neg (by omega)]
end
theorem nj5' {s : Sto} {room half : Int} (hs : s.ok room) {x : ByteArray} (hx : (x.size : Int) ≤ room) : (s.set half x).ok room := by
  obtain ⟨h1, h2, h3, h4, h5⟩ := hs
  unfold Sto.set Sto.ok
  split
  · exact ⟨h1, h2, hx, h4, h5⟩
  · exact ⟨h1, h2, h3, hx, h5⟩
theorem nu7' {s : Sto} {room half : Int} (hs : s.ok room) (hh : half = 0 ∨ half = 1) : Sto.ok room { s with sel := half } := by
  obtain ⟨h1, h2, h3, h4, _⟩ := hs
  exact ⟨h1, h2, h3, h4, hh⟩
theorem nll' {s : Sto} {room : Int} (hs : s.ok room) : s.sel = 0 ∨ s.sel = 1 := hs.2.2.2.2
theorem nwf' {s : Sto} (hh : s.sel = 0 ∨ s.sel = 1) : s.cur = s.get s.sel := by
  unfold Sto.cur Sto.get
  rcases hh with h | h <;> rw [h] <;> rfl
theorem nwi' {s : Sto} (hh : s.sel = 0 ∨ s.sel = 1) (x : ByteArray) : (s.set s.sel x).cur = x := by
  obtain ⟨h0, h1, sel⟩ := s
  rcases hh with h | h <;>
    (simp only at h
     subst h
     simp [Sto.cur, Sto.set])
theorem nsk' {s : Sto} (hh : s.sel = 0 ∨ s.sel = 1) (x : ByteArray) : (s.set (1 - s.sel) x).cur = s.cur := by
  obtain ⟨h0, h1, sel⟩ := s
  rcases hh with h | h <;>
    (simp only at h
     subst h
     simp [Sto.cur, Sto.set])
theorem n16' (s : Sto) (half : Int) (x : ByteArray) : (s.set half x).sel = s.sel := by unfold Sto.set; split <;> rfl
theorem nsl' {s : Sto} (hh : s.sel = 0 ∨ s.sel = 1) (x : ByteArray) : (s.set (1 - s.sel) x).get (1 - s.sel) = x := by
  obtain ⟨h0, h1, sel⟩ := s
  rcases hh with h | h <;>
    (simp only at h
     subst h
     simp [Sto.set, Sto.get])
theorem nso' {s : Sto} (hh : s.sel = 0 ∨ s.sel = 1) (x y : ByteArray) : (s.set (1 - s.sel) x).set (1 - s.sel) y = s.set (1 - s.sel) y := by
  obtain ⟨h0, h1, sel⟩ := s
  rcases hh with h | h <;>
    (simp only at h
     subst h
     simp [Sto.set])
theorem nm4' {s : Sto} (hh : s.sel = 0 ∨ s.sel = 1) (x : ByteArray) : Sto.cur { s.set (1 - s.sel) x with sel := 1 - s.sel } = x := by
  obtain ⟨h0, h1, sel⟩ := s
  rcases hh with h | h <;>
    (simp only at h
     subst h
     simp [Sto.cur, Sto.set])
theorem nls' {b : Bldg} (hb : b.small) (hc : b.Cars.length ≤ 100) {s : Sto} {rs : List Record} {t : List UInt8} (h : bl s.cur = rs.flatMap encL ++ t) (ht : t.length < 6) (hv : ∀ r ∈ rs, nj' b r = true) : nb3' b s = nb4' (initV b) rs := by
  unfold nb3' readV
  have hl : s.cur.size = 6 * rs.length + t.length := by rw [← ndf', h, List.length_append, nr3']
  rw [h, nne' hb hc ht rs s.cur.size (by omega) hv]
structure Jst (b : Bldg) (s : Sto) (m : Img) : Prop where
  ok : s.ok b.Room
  img : ImgOK b m
  rs : ∃ rs : List Record, bl s.cur = rs.flatMap encL ∧ (∀ r ∈ rs, nj' b r = true) ∧ nb4' (initV b) rs = m
  fits : 18 * ((b.Cars.length : Int) + (m.Entries.length : Int)) + 6 ≤ b.Room
theorem ntc' {m : Img} (hs : nbq' m.Entries) {r : Record} (h : r.Kind = 1 → hasF (keyE r.Floor r.Dir) m.Entries = true) : (nu' m r).Entries.length ≤ m.Entries.length := by
  unfold nu'
  cases r.Kind == 4 with
  | true => exact Nat.le_refl _
  | false =>
  cases r.Kind == 5 with
  | true => exact Nat.le_refl _
  | false =>
  cases r.Kind == 6 with
  | true => exact Nat.le_refl _
  | false =>
  simp only [cond_false]
  have hf := nlm' (c := keyE r.Floor r.Dir) 0 hs
  rw [show findF r.Floor r.Dir m.Entries 0 = _ from hf]
  cases hq : hasF (keyE r.Floor r.Dir) m.Entries with
  | false =>
    simp only [cond_false, beq_self_eq_true, cond_true]
    by_cases k1 : r.Kind = 1
    · rw [h k1] at hq; cases hq
    · rw [beq_f k1]; exact Nat.le_refl _
  | true =>
    rw [cond_true, beq_f (show ¬ ((0 + posF (keyE r.Floor r.Dir) m.Entries : Nat) : Int) = -1 by omega), cond_false]
    cases r.Kind == 2 with
    | true =>
      show (m.Entries.take _ ++ m.Entries.drop _).length ≤ _
      rw [List.length_append, List.length_take, List.length_drop]; omega
    | false =>
    cases r.Kind == 3 with
    | true => show (m.Entries.set _ _).length ≤ _; rw [List.length_set]; exact Nat.le_refl _
    | false =>
    cases r.Kind == 7 with
    | true => show (m.Entries.set _ _).length ≤ _; rw [List.length_set]; exact Nat.le_refl _
    | false => exact Nat.le_refl _
theorem nye' {b : Bldg} {s : Sto} {m : Img} (hj : Jst b s m) {r : Record} (hv : nj' b r = true) (hfull : fullV b m r = false) : 18 * ((b.Cars.length : Int) + ((nu' m r).Entries.length : Int)) + 6 ≤ b.Room := by
  have h0 := hj.fits
  have h2 := (nh4' hj.img hv).2
  by_cases hk : r.Kind = 1
  · cases hq : hasF (keyE r.Floor r.Dir) m.Entries with
    | true => have := ntc' hj.img.so fun _ => hq; omega
    | false =>
      unfold fullV roomV at hfull
      rw [hk, hq, Img.ok_iff.2 hj.img] at hfull
      simp at hfull
      omega
  · have := ntc' hj.img.so (r := r) fun h => absurd h hk
    omega
theorem nlc' {b : Bldg} {m : Img} (h : ImgOK b m) : (((snapV m).flatMap encL).length : Int) = 18 * ((b.Cars.length : Int) + (m.Entries.length : Int)) := by
  rw [nr3', not', h.lp]; omega
theorem nng' {b : Bldg} {s : Sto} {m : Img} (hs : s.ok b.Room) (hm : ImgOK b m) {bud : Int} (hb0 : 0 ≤ bud) (hfit : 18 * ((b.Cars.length : Int) + (m.Entries.length : Int)) ≤ b.Room) :
    (2 + 18 * ((b.Cars.length : Int) + (m.Entries.length : Int)) ≤ bud ∧ nc5' b s m bud = ({ s.set (1 - s.sel) (txt ((snapV m).flatMap encL)) with sel := 1 - s.sel }, bud - (2 + 18 * ((b.Cars.length : Int) + (m.Entries.length : Int))), 0)) ∨
    (bud < 2 + 18 * ((b.Cars.length : Int) + (m.Entries.length : Int)) ∧ ∃ s', nc5' b s m bud = (s', 0, 8) ∧ s'.ok b.Room ∧ s'.cur = s.cur) := by
  have hsel := nll' hs
  have hh : 1 - s.sel = 0 ∨ 1 - s.sel = 1 := by omega
  have hL := nlc' hm
  have hroom := hs.1
  have he : s.erase b.Room (1 - s.sel) bud = if bud = 0 then (s, 0, 8) else (s.set (1 - s.sel) noB, bud - 1, 0) := ny0' hs hh hb0 _
  unfold nc5'
  rw [decide_eq_true hs, decide_eq_false (show ¬ bud < 0 by omega), Img.ok_iff.2 hm]
  simp only [Bool.not_true, cond_false]
  generalize hT : (snapV m).flatMap encL = T at hL ⊢
  by_cases h0 : bud = 0
  · right
    rw [he, if_pos h0]
    exact ⟨by omega, s, rfl, hs, rfl⟩
  · rw [if_neg h0] at he
    rw [he]
    have hs1 : (s.set (1 - s.sel) noB).ok b.Room := nj5' hs (by show (0 : Int) ≤ _; omega)
    have hw := ntz' (t := T) hs1 hh (show 0 ≤ bud - 1 by omega) (by rw [nsl' hsel]; show ((0 : Nat) : Int) + _ ≤ _; omega)
    rw [nsl' hsel, nso' hsel, nso' hsel] at hw
    have nb : ∀ x : ByteArray, noB ++ x = x := fun x => nnx' (by rw [nmf']; rfl)
    rw [nb, nb] at hw
    simp only [beq_self_eq_true, cond_true, hw]
    by_cases h1 : bud - 1 < (T.length : Int)
    · right
      rw [if_pos h1]
      refine ⟨by omega, _, rfl, nj5' hs ?_, nsk' hsel _⟩
      rw [nbf', List.length_take]
      omega
    · rw [if_neg h1]
      have hs2 : (s.set (1 - s.sel) (txt T)).ok b.Room := nj5' hs (by rw [nbf']; omega)
      have hc := ny0' hs2 hh (show 0 ≤ bud - 1 - (T.length : Int) by omega) { s.set (1 - s.sel) (txt T) with sel := 1 - s.sel }
      have hc' : (s.set (1 - s.sel) (txt T)).choose b.Room (1 - s.sel) (bud - 1 - (T.length : Int)) = _ := hc
      simp only [beq_self_eq_true, cond_true, hc']
      by_cases h2 : bud - 1 - (T.length : Int) = 0
      · right
        rw [if_pos h2]
        exact ⟨by omega, _, rfl, hs2, nsk' hsel _⟩
      · left
        rw [if_neg h2, show bud - 1 - (T.length : Int) - 1 = bud - (2 + 18 * ((b.Cars.length : Int) + (m.Entries.length : Int))) by omega]
        exact ⟨by omega, rfl⟩
def needV (b : Bldg) (s : Sto) (m : Img) (r : Record) : Int := if (s.cur.size : Int) + 6 ≤ b.Room then 6 else 2 + 18 * ((b.Cars.length : Int) + ((nu' m r).Entries.length : Int))
theorem n1z' {b : Bldg} (hb : b.small) {s : Sto} {m : Img} (hj : Jst b s m) {r : Record} (hv : nj' b r = true) (hfull : fullV b m r = false) {bud : Int} (hb0 : 0 ≤ bud) :
    (needV b s m r ≤ bud ∧ ∃ s', nd4' b s m r bud = (s', nu' m r, bud - needV b s m r, 0) ∧ Jst b s' (nu' m r)) ∨
    (bud < needV b s m r ∧ ∃ s', nd4' b s m r bud = (s', m, 0, 8) ∧ s'.ok b.Room ∧ nb3' b s' = m) := by
  have hcars := ndp' hj.img.code
  have hc : b.Cars.length ≤ 100 := by omega
  have hm2 := (nh4' hj.img hv).1
  have hfit := nye' hj hv hfull
  obtain ⟨rs, e1, e2, e3⟩ := hj.rs
  have hsel := nll' hj.ok
  unfold nd4'
  rw [Img.ok_iff.2 hj.img, hv, decide_eq_true hj.ok, decide_eq_false (show ¬ bud < 0 by omega), hfull]
  simp only [Bool.and_self, Bool.not_true, cond_false]
  unfold needV putV
  by_cases g : (s.cur.size : Int) + 6 ≤ b.Room
  · rw [if_pos g, decide_eq_true (show (6 : Int) ≤ b.Room - (s.cur.size : Int) by omega), cond_true]
    have hw := ntz' (t := encL r) hj.ok hsel hb0 (by rw [← nwf' hsel, nbb']; omega)
    rw [nbb', ← nwf' hsel] at hw
    rw [hw]
    by_cases h1 : bud < ((6 : Nat) : Int)
    · right
      rw [if_pos h1]
      have hl : ((encL r).take bud.toNat).length < 6 := by rw [List.length_take, nbb']; omega
      refine ⟨by omega, _, rfl, nj5' hj.ok ?_, ?_⟩
      · rw [← ndf', nmf', ncl', List.length_append, ndf']; omega
      · rw [nls' hb hc (rs := rs) (t := (encL r).take bud.toNat) (by rw [nwi' hsel, nmf', ncl', e1]) hl e2, e3]
    · left
      rw [if_neg h1]
      refine ⟨by omega, _, rfl, nj5' hj.ok ?_, hm2, ⟨rs ++ [r], ?_, ?_, ?_⟩, hfit⟩
      · rw [← ndf', nmf', ncl', List.length_append, ndf', nbb']; omega
      · rw [nwi' hsel, nmf', ncl', e1, List.flatMap_append]
        simp
      · intro x hx
        rcases List.mem_append.1 hx with hx | hx
        · exact e2 x hx
        · rw [List.mem_singleton.1 hx]; exact hv
      · rw [nf6', e3]; rfl
  · rw [if_neg g, decide_eq_false (show ¬ (6 : Int) ≤ b.Room - (s.cur.size : Int) by omega), cond_false]
    rcases nng' hj.ok hm2 hb0 (by omega) with ⟨q1, q2⟩ | ⟨q1, s', q2, q3, q4⟩
    · left
      rw [q2]
      refine ⟨q1, _, rfl, nu7' (nj5' hj.ok ?_) (by omega), hm2, ⟨snapV (nu' m r), ?_, ng9' hm2, nkk' hm2⟩, hfit⟩
      · rw [nbf', nlc' hm2]; omega
      · rw [nm4' hsel, ncl']
    · right
      rw [q2]
      refine ⟨q1, s', rfl, q3, ?_⟩
      rw [nls' hb hc (rs := rs) (t := []) (by rw [q4, e1, List.append_nil]) (by simp) e2, e3]
theorem n1q' {b : Bldg} {s : Sto} {m : Img} (hj : Jst b s m) {r : Record} (hv : nj' b r = true) (hfull : fullV b m r = true) {bud : Int} (hb0 : 0 ≤ bud) : nd4' b s m r bud = (Sto.no, Img.none, 0, 7) := by
  unfold nd4'
  rw [Img.ok_iff.2 hj.img, hv, decide_eq_true hj.ok, decide_eq_false (show ¬ bud < 0 by omega), hfull]
  rfl
theorem Jst.replay {b : Bldg} (hb : b.small) {s : Sto} {m : Img} (hj : Jst b s m) : nb3' b s = m := by
  have hcars := ndp' hj.img.code
  obtain ⟨rs, e1, e2, e3⟩ := hj.rs
  rw [nls' hb (by omega) (rs := rs) (t := []) (by rw [e1, List.append_nil]) (by simp) e2, e3]
theorem Jst.first {b : Bldg} (hcode : b.code = 0) : Jst b Sto.no (initV b) := by
  have hr := nn6' hcode
  have hcars := ndp' hcode
  refine ⟨⟨by omega, by omega, ?_, ?_, .inl rfl⟩, nky' hcode, ⟨[], rfl, (fun r h => by cases h), rfl⟩, ?_⟩
  · show (0 : Int) ≤ _; omega
  · show (0 : Int) ≤ _; omega
  · show 18 * ((b.Cars.length : Int) + ((0 : Nat) : Int)) + 6 ≤ _; omega
theorem Jst.ents {b : Bldg} {s : Sto} {m : Img} (hj : Jst b s m) : m.Entries.length ≤ 4000 ∧ m.fit := by
  have h1 := hj.fits
  have h2 := (nn6' hj.img.code).2
  have h3 := ndp' hj.img.code
  have g1 := hj.img.lp
  have g2 := hj.img.lf
  have g3 := hj.img.ll
  exact ⟨by omega, by omega, by omega, by omega, by omega⟩
theorem nzc' {s : Sto} {room : Int} (hs : s.ok room) : (s.cur.size : Int) ≤ room := by
  obtain ⟨_, _, h3, h4, _⟩ := hs
  unfold Sto.cur
  split
  · exact h4
  · exact h3
end Go.Ovl
