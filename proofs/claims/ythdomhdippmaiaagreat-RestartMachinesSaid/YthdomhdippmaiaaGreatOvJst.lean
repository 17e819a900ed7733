/- Layer 10: a journal that Append has written says its image; what an append with any budget leaves. -/
import Derived.Test.YthdomhdippmaiaaGreatOvSane10
namespace Go.Ovl
open Go Go.Ab
set_option maxRecDepth 100000
section
variable {s : Sto} {room half bud : Int} (hs : s.ok room) (hh : half = 0 ∨ half = 1) (hb : 0 ≤ bud)
include hs hh hb
theorem n07' : s.chk room half bud = 0 := by
  unfold Sto.chk
  rw [if_pos hs, if_neg (by omega)]
theorem n3r' {t : List UInt8} (hr : ((s.get half).size : Int) + (t.length : Int) ≤ room) : s.write room half (txt t) bud = if bud < (t.length : Int) then (s.set half (s.get half ++ txt (t.take bud.toNat)), 0, 8) else (s.set half (s.get half ++ txt t), bud - (t.length : Int), 0) := by
  have he : (txt t).extract 0 bud.toNat = txt (t.take bud.toNat) := nwe' (by rw [nxh', nig', nig']; simp)
  unfold Sto.write
  rw [n07' hs hh hb, if_neg (by omega), njo', if_neg (by omega), he]
theorem n27' (t : Sto) : s.act room half bud t = if bud = 0 then (s, 0, 8) else (t, bud - 1, 0) := by
  unfold Sto.act
  rw [n07' hs hh hb, if_neg (by omega)]
end
theorem ns4' {s : Sto} {room half : Int} (hs : s.ok room) {x : ByteArray} (hx : (x.size : Int) ≤ room) : (s.set half x).ok room := by
  obtain ⟨h1, h2, h3, h4, h5⟩ := hs
  unfold Sto.set Sto.ok
  split
  · exact ⟨h1, h2, hx, h4, h5⟩
  · exact ⟨h1, h2, h3, hx, h5⟩
theorem n6n' {s : Sto} {room half : Int} (hs : s.ok room) (hh : half = 0 ∨ half = 1) : Sto.ok room { s with sel := half } := by
  obtain ⟨h1, h2, h3, h4, _⟩ := hs
  exact ⟨h1, h2, h3, h4, hh⟩
theorem num' {s : Sto} {room : Int} (hs : s.ok room) : s.sel = 0 ∨ s.sel = 1 := hs.2.2.2.2
theorem nut' {s : Sto} (hh : s.sel = 0 ∨ s.sel = 1) (x : ByteArray) : (s.set (1 - s.sel) x).cur = s.cur := by
  obtain ⟨h0, h1, sel⟩ := s
  rcases hh with h | h <;>
    (simp only at h
     subst h
     simp [Sto.cur, Sto.set])
theorem nu1' {s : Sto} (hh : s.sel = 0 ∨ s.sel = 1) (x : ByteArray) : (s.set (1 - s.sel) x).get (1 - s.sel) = x := by
  obtain ⟨h0, h1, sel⟩ := s
  rcases hh with h | h <;>
    (simp only at h
     subst h
     simp [Sto.set, Sto.get])
theorem nvg' {s : Sto} (hh : s.sel = 0 ∨ s.sel = 1) (x y : ByteArray) : (s.set (1 - s.sel) x).set (1 - s.sel) y = s.set (1 - s.sel) y := by
  obtain ⟨h0, h1, sel⟩ := s
  rcases hh with h | h <;>
    (simp only at h
     subst h
     simp [Sto.set])
theorem n0n' {s : Sto} (hh : s.sel = 0 ∨ s.sel = 1) (x : ByteArray) : Sto.cur { s.set (1 - s.sel) x with sel := 1 - s.sel } = x := by
  obtain ⟨h0, h1, sel⟩ := s
  rcases hh with h | h <;>
    (simp only at h
     subst h
     simp [Sto.cur, Sto.set])
theorem n2e' {b : Bldg} (hb : b.small) (hc : b.Cars.length ≤ 100) {s : Sto} {rs : List Record} {t : List UInt8} (h : bl s.cur = rs.flatMap encL ++ t) (ht : t.length < 6) (hv : ∀ r ∈ rs, n4' b r = true) : ndc' b s = nci' (initV b) rs := by
  unfold ndc' readV
  have hl : s.cur.size = 6 * rs.length + t.length := by rw [← nhc', h, List.length_append, ntm']
  rw [h, nwi' hb hc ht rs s.cur.size (by omega) hv]
structure Jst (b : Bldg) (s : Sto) (m : Img) : Prop where
  ok : s.ok b.Room
  img : ImgOK b m
  rs : ∃ rs : List Record, bl s.cur = rs.flatMap encL ∧ (∀ r ∈ rs, n4' b r = true) ∧ nci' (initV b) rs = m
  fits : 18 * ((b.Cars.length : Int) + (m.Entries.length : Int)) + 6 ≤ b.Room
theorem nxn' {b : Bldg} {m : Img} (h : ImgOK b m) : (((snapV m).flatMap encL).length : Int) = 18 * ((b.Cars.length : Int) + (m.Entries.length : Int)) := by
  rw [ntm', nvt', h.lp]; omega
theorem nzv' {b : Bldg} {s : Sto} {m : Img} (hs : s.ok b.Room) (hm : ImgOK b m) {bud : Int} (hb0 : 0 ≤ bud) (hfit : 18 * ((b.Cars.length : Int) + (m.Entries.length : Int)) ≤ b.Room) :
    (2 + 18 * ((b.Cars.length : Int) + (m.Entries.length : Int)) ≤ bud ∧ net' b s m bud = ({ s.set (1 - s.sel) (txt ((snapV m).flatMap encL)) with sel := 1 - s.sel }, bud - (2 + 18 * ((b.Cars.length : Int) + (m.Entries.length : Int))), 0)) ∨
    (bud < 2 + 18 * ((b.Cars.length : Int) + (m.Entries.length : Int)) ∧ ∃ s', net' b s m bud = (s', 0, 8) ∧ s'.ok b.Room ∧ s'.cur = s.cur) := by
  have hsel := num' hs
  have hh : 1 - s.sel = 0 ∨ 1 - s.sel = 1 := by omega
  have hL := nxn' hm
  have hroom := hs.1
  have he : s.erase b.Room (1 - s.sel) bud = if bud = 0 then (s, 0, 8) else (s.set (1 - s.sel) noB, bud - 1, 0) := n27' hs hh hb0 _
  unfold net'
  rw [decide_eq_true hs, decide_eq_false (show ¬ bud < 0 by omega), Img.ok_iff.2 hm]
  simp only [Bool.not_true, cond_false]
  generalize hT : (snapV m).flatMap encL = T at hL ⊢
  by_cases h0 : bud = 0
  · right
    rw [he, if_pos h0]
    exact ⟨by omega, s, rfl, hs, rfl⟩
  · rw [if_neg h0] at he
    rw [he]
    have hs1 : (s.set (1 - s.sel) noB).ok b.Room := ns4' hs (by show (0 : Int) ≤ _; omega)
    have hw := n3r' (t := T) hs1 hh (show 0 ≤ bud - 1 by omega) (by rw [nu1' hsel]; show ((0 : Nat) : Int) + _ ≤ _; omega)
    rw [nu1' hsel, nvg' hsel, nvg' hsel] at hw
    have nb : ∀ x : ByteArray, noB ++ x = x := fun x => nwe' (by rw [n26']; rfl)
    rw [nb, nb] at hw
    simp only [beq_self_eq_true, cond_true, hw]
    by_cases h1 : bud - 1 < (T.length : Int)
    · right
      rw [if_pos h1]
      refine ⟨by omega, _, rfl, ns4' hs ?_, nut' hsel _⟩
      rw [njo', List.length_take]
      omega
    · rw [if_neg h1]
      have hs2 : (s.set (1 - s.sel) (txt T)).ok b.Room := ns4' hs (by rw [njo']; omega)
      have hc := n27' hs2 hh (show 0 ≤ bud - 1 - (T.length : Int) by omega) { s.set (1 - s.sel) (txt T) with sel := 1 - s.sel }
      have hc' : (s.set (1 - s.sel) (txt T)).choose b.Room (1 - s.sel) (bud - 1 - (T.length : Int)) = _ := hc
      simp only [beq_self_eq_true, cond_true, hc']
      by_cases h2 : bud - 1 - (T.length : Int) = 0
      · right
        rw [if_pos h2]
        exact ⟨by omega, _, rfl, hs2, nut' hsel _⟩
      · left
        rw [if_neg h2, show bud - 1 - (T.length : Int) - 1 = bud - (2 + 18 * ((b.Cars.length : Int) + (m.Entries.length : Int))) by omega]
        exact ⟨by omega, rfl⟩
theorem Jst.replay {b : Bldg} (hb : b.small) {s : Sto} {m : Img} (hj : Jst b s m) : ndc' b s = m := by
  have hcars := ncj' hj.img.code
  obtain ⟨rs, e1, e2, e3⟩ := hj.rs
  rw [n2e' hb (by omega) (rs := rs) (t := []) (by rw [e1, List.append_nil]) (by simp) e2, e3]
theorem Jst.first {b : Bldg} (hcode : b.code = 0) : Jst b Sto.no (initV b) := by
  have hr := nvf' hcode
  have hcars := ncj' hcode
  refine ⟨⟨by omega, by omega, ?_, ?_, .inl rfl⟩, nmp' hcode, ⟨[], rfl, (fun r h => by cases h), rfl⟩, ?_⟩
  · show (0 : Int) ≤ _; omega
  · show (0 : Int) ≤ _; omega
  · show 18 * ((b.Cars.length : Int) + ((0 : Nat) : Int)) + 6 ≤ _; omega
theorem Jst.ents {b : Bldg} {s : Sto} {m : Img} (hj : Jst b s m) : m.Entries.length ≤ 4000 ∧ m.fit := by
  have h1 := hj.fits
  have h2 := (nvf' hj.img.code).2
  have h3 := ncj' hj.img.code
  have g1 := hj.img.lp
  have g2 := hj.img.lf
  have g3 := hj.img.ll
  exact ⟨by omega, by omega, by omega, by omega, by omega⟩
theorem n5x' {s : Sto} {room : Int} (hs : s.ok room) : (s.cur.size : Int) ≤ room := by
  obtain ⟨_, _, h3, h4, _⟩ := hs
  unfold Sto.cur
  split
  · exact h4
  · exact h3
end Go.Ovl
