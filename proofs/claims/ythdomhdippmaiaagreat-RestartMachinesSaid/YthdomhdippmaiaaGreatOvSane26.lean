/- Layer 26: booting a journal, and the sanity check of the statements about restarts. -/
import Derived.Test.YthdomhdippmaiaaGreatOvFresh
namespace Go.Ovl
open Go Go.Ab
set_option maxRecDepth 100000
theorem nzl' {b : Bldg} {m : Img} (hm : ImgOK b m) (hfit : 18 * ((b.Cars.length : Int) + (m.Entries.length : Int)) + 6 ≤ b.Room) : fitsV b m = true := by
  unfold fitsV
  rw [Img.ok_iff.2 hm, decide_eq_true hfit]; rfl
theorem nov' {b : Bldg} {m : Img} (hm : ImgOK b m) (hfit : 18 * ((b.Cars.length : Int) + (m.Entries.length : Int)) + 6 ≤ b.Room) {s : Sto} (hs : s.ok b.Room) : nhb' b m s = (nfa' b m s, 0) := by
  unfold nhb'
  rw [nzl' hm hfit, decide_eq_true hs]; rfl
theorem ntd' {b : Bldg} (_hb : b.small) {s : Sto} {m : Img} (hs : s.ok b.Room) (hm : ImgOK b m) (hrep : ndc' b s = m) (hfit : 18 * ((b.Cars.length : Int) + (m.Entries.length : Int)) + 6 ≤ b.Room) {bud : Int} (hb0 : 0 ≤ bud) :
    (2 + 18 * ((b.Cars.length : Int) + (m.Entries.length : Int)) ≤ bud ∧ bootV b s bud = (nfa' b m { s.set (1 - s.sel) (txt ((snapV m).flatMap encL)) with sel := 1 - s.sel }, bud - (2 + 18 * ((b.Cars.length : Int) + (m.Entries.length : Int))), 0) ∧ Jst b { s.set (1 - s.sel) (txt ((snapV m).flatMap encL)) with sel := 1 - s.sel } m) ∨
    (bud < 2 + 18 * ((b.Cars.length : Int) + (m.Entries.length : Int)) ∧ ∃ s', bootV b s bud = ({ Mch.none with Store := s' }, 0, 8) ∧ s'.ok b.Room ∧ ndc' b s' = m) := by
  have hsel := num' hs
  unfold bootV ncq'
  rw [hrep]
  rcases nzv' hs hm hb0 (by omega) with ⟨q1, q2⟩ | ⟨q1, s', q2, q3, q4⟩
  · left
    have hj : Jst b { s.set (1 - s.sel) (txt ((snapV m).flatMap encL)) with sel := 1 - s.sel } m := by
      refine ⟨n6n' (ns4' hs ?_) (by omega), hm, ⟨snapV m, ?_, nr7' hm, nzx' hm⟩, hfit⟩
      · rw [njo', nxn' hm]; omega
      · rw [n0n' hsel, nig']
    rw [q2]
    refine ⟨q1, ?_, hj⟩
    simp only [bne_self_eq_false, cond_false]
    rw [nov' hm hfit hj.ok]
    rfl
  · right
    rw [q2]
    refine ⟨q1, s', rfl, q3, ?_⟩
    rw [← hrep]
    unfold ndc'
    rw [q4]
def sB26 : Bldg := bld10 4 2 90
theorem n3a' : sB26.code = 0 := nsy' (by omega) (by omega) (by omega) (by omega) ⟨by omega, by omega⟩
theorem n0k' : sB26.small := ⟨by decide, by decide⟩
theorem nxs' : ng3' = some ((true, ()), ()) := by
  have hbd : nc3' 9 90 = some (((), ()), (sB26.tup, ())) := by
    unfold nc3'
    rw [show IntKind.i64.wrap (2 + IntKind.i64.wrap (Int.tmod 9 7)) = ((4 : Nat) : Int) from rfl, show IntKind.i64.wrap (1 + IntKind.i64.wrap (Int.tmod (IntKind.u8.wrap (Int.tdiv 9 7)) 3)) = ((2 : Nat) : Int) from rfl, nnd' (by decide) (by decide)]
    rfl
  have hcl : sB26.Cars.length = 2 := by simp [sB26, bld10, nbv']
  have hroom : sB26.Room = 150 := rfl
  have hcode := n3a'
  have hb := n0k'
  generalize sB26 = b at *
  have j0 := Jst.first hcode
  have hi0 : (initV b).Entries.length = 0 := rfl
  have hip : (initV b).Phases.length = 2 := by rw [j0.img.lp, hcl]
  have st := nr2' hb hcode
  have hsv : ∃ s1, npz' b = (nfa' b (initV b) s1, 0) ∧ Jst b s1 (initV b) := by
    unfold npz'
    rw [hcode]
    rcases ntd' hb j0.ok j0.img (j0.replay hb) (by omega) (bud := 1048576) (by omega) with ⟨_, q2, q3⟩ | ⟨q1, _⟩
    · exact ⟨_, by rw [q2]; rfl, q3⟩
    · omega
  obtain ⟨s1, e1, j1⟩ := hsv
  rw [e1] at st
  have hc1 := n5x' j1.ok
  have b1 := nka' hb hcode s1 (by omega) (bud := 100) (by omega)
  have b2 := nka' hb hcode s1 (by omega) (bud := 0) (by omega)
  have h1 : ∃ s2, bootV b s1 100 = (nfa' b (initV b) s2, 62, 0) := by
    rcases ntd' hb j1.ok j1.img (j1.replay hb) (by omega) (bud := 100) (by omega) with ⟨_, q2, _⟩ | ⟨q1, _⟩
    · rw [show (100 : Int) - (2 + 18 * ((b.Cars.length : Int) + ((initV b).Entries.length : Int))) = 62 by omega] at q2
      exact ⟨_, q2⟩
    · omega
  have h2 : ∃ s2, bootV b s1 0 = ({ Mch.none with Store := s2 }, 0, 8) := by
    rcases ntd' hb j1.ok j1.img (j1.replay hb) (by omega) (bud := 0) (by omega) with ⟨q1, _⟩ | ⟨_, s2, q2, _⟩
    · omega
    · exact ⟨s2, q2⟩
  obtain ⟨s2, e2⟩ := h1
  obtain ⟨s3, e3⟩ := h2
  rw [e2] at b1
  rw [e3] at b2
  have sm := nkm' (nu3' j1.ents.2 (b := b) (by omega) s2) (c := nfa' b (initV b) s2)
  rw [nsg'] at sm
  have hbl : (nfa' b (initV b) s1).Beliefs.length = 2 := by show (List.replicate _ _).length = 2; rw [List.length_replicate, hcl]
  have hb1 : (nfa' b (initV b) s1).Beliefs.getD (Int.toNat 1) (Belief.mk 0 0 0 [] 0 false) = newBel := by
    show (List.replicate b.Cars.length newBel).getD 1 _ = _
    rw [hcl]; rfl
  have hph : (nfa' b (initV b) s1).Image.Phases.length = 2 := hip
  unfold ng3'
  rw [hbd]
  simp only [Option.bind_some, Bldg.tup]
  rw [st]
  simp only [Option.bind_some, Mch.tup]
  rw [show (nfa' b (initV b) s1).Store = s1 from rfl, b1, b2]
  simp only [Option.bind_some, Mch.tup, beq_self_eq_true, cond_true]
  rw [hbl, nc' (show (0 : Int) ≤ 1 by omega) (show (1 : Int) < ((2 : Nat) : Int) by omega), hb1, hph]
  simp only [cond_true]
  rw [sm]
  rfl
theorem ny0' : ∀ {l : List Nat} {a n : Nat}, l.Pairwise (· < ·) → (∀ x ∈ l, a ≤ x ∧ x < n) → l.length + a ≤ n ∨ l = []
  | [], _, _, _, _ => .inr rfl
  | x :: t, a, n, h, hr => by
    left
    obtain ⟨h1, h2⟩ := List.pairwise_cons.1 h
    have hx := hr x (List.mem_cons_self ..)
    rcases ny0' (a := x + 1) (n := n) h2 (fun y hy => ⟨h1 y hy, (hr y (List.mem_cons_of_mem _ hy)).2⟩) with q | q
    · rw [List.length_cons]; omega
    · subst q
      simp; omega
theorem n5g' {b : Bldg} (hb : b.small) {m : Img} (hm : ImgOK b m) : (m.Entries.length : Int) ≤ 2 * (b.Floors - 1) := by
  have lo := hb.lo
  have hi := hb.hi
  let ix : Int × Int → Nat := fun p => if p.1 = 0 then 0 else if p.1 = b.Floors - 1 then (2 * b.Floors - 3).toNat else (2 * p.1 + p.2 - 2).toNat
  have hv : ∀ p ∈ m.Entries.map njy', (p.2 = 1 ∧ 0 ≤ p.1 ∧ p.1 ≤ b.Floors - 2) ∨ (p.2 = 2 ∧ 1 ≤ p.1 ∧ p.1 ≤ b.Floors - 1) := fun p hp => by
    obtain ⟨e, he, rfl⟩ := List.mem_map.1 hp
    have h1 := (nfw'.1 (hm.en e he)).1
    unfold nbf' callB at h1
    simp only [Bool.and_eq_true, Bool.or_eq_true, beq_iff_eq, nv'] at h1
    show (e.Dir = 1 ∧ 0 ≤ e.Floor ∧ e.Floor ≤ b.Floors - 2) ∨ (e.Dir = 2 ∧ 1 ≤ e.Floor ∧ e.Floor ≤ b.Floors - 1)
    omega
  have hp : ((m.Entries.map njy').map ix).Pairwise (· < ·) := by
    rw [List.pairwise_map]
    refine List.Pairwise.imp_of_mem (fun {p q} hp hq h => ?_) hm.so
    have v1 := hv p hp
    have v2 := hv q hq
    unfold ltC at h
    show ix p < ix q
    simp only [ix]
    split <;> split <;> (try split) <;> (try split) <;> omega
  rcases ny0' (a := 0) (n := (2 * b.Floors - 2).toNat) hp (fun x hx => by
    obtain ⟨p, hp, rfl⟩ := List.mem_map.1 hx
    have v1 := hv p hp
    refine ⟨Nat.zero_le _, ?_⟩
    show ix p < _
    simp only [ix]
    split
    · omega
    · split <;> omega) with q | q
  · rw [List.length_map, List.length_map] at q; omega
  · have := congrArg List.length q
    rw [List.length_map, List.length_map, List.length_nil] at this; omega
end Go.Ovl
