/- Layer 10: the sanity check of the statements about the journal holds. -/
import Derived.Test.YthdomhdippmaiaaOvJour
namespace Go.Ovl
open Go Go.Ab
set_option maxRecDepth 100000
def sB : Bldg := bld10 4 2 30
def sM0 : Img := ⟨[0, 0], [false, false], [false, false], []⟩
def sM1 : Img := ⟨[0, 0], [false, false], [false, false], [⟨2, 1, -1, 0, false⟩]⟩
def sM2 : Img := ⟨[0, 0], [false, false], [false, false], [⟨2, 1, 0, 0, false⟩]⟩
def sR1 : Record := ⟨1, 2, 1, 0, 0⟩
def sR2 : Record := ⟨3, 2, 1, 0, 0⟩
def sR3 : Record := ⟨2, 2, 1, 0, 0⟩
def sS1 : Sto := ⟨txt (encL sR1), txt [], 0⟩
def sS2 : Sto := ⟨txt (encL sR1 ++ encL sR2), txt [], 0⟩
def sS3 : Sto := ⟨txt (encL sR1 ++ encL sR2 ++ (encL sR3).take 5), txt [], 0⟩
theorem nh5' : sB.code = 0 := nnf' (by omega) (by omega) (by omega) (by omega) ⟨by omega, by omega⟩
theorem nje' : sB.small := ⟨by decide, by decide⟩
theorem ok0 : sM0.ok sB = true := by
  unfold Img.ok
  rw [nh5']; rfl
theorem ok1 : sM1.ok sB = true := by
  unfold Img.ok entsF entOK n1'
  rw [nh5']; rfl
theorem ok2 : sM2.ok sB = true := by
  unfold Img.ok entsF entOK n1'
  rw [nh5']; rfl
theorem va1 : nj' sB sR1 = true := by
  unfold nj' n1'
  rw [nh5']; rfl
theorem va2 : nj' sB sR2 = true := by
  unfold nj' n1'
  rw [nh5']; rfl
theorem va3 : nj' sB sR3 = true := by
  unfold nj' n1'
  rw [nh5']; rfl
theorem ap1 : nu' sM0 sR1 = sM1 := rfl
theorem ap2 : nu' sM1 sR2 = sM2 := rfl
theorem room0 : roomV sB sM0 = true := by
  unfold roomV
  rw [ok0]; rfl
theorem nyi' {s : Sto} {room bud : Int} {l t : List UInt8} (hs : s.ok room) (hsel : s.sel = 0) (h0 : s.h0 = txt l) (hb : (t.length : Int) ≤ bud) (hr : (l.length : Int) + (t.length : Int) ≤ room) : s.write room 0 (txt t) bud = (⟨txt (l ++ t), s.h1, 0⟩, bud - t.length, 0) := by
  have hc : s.chk room 0 bud = 0 := by
    unfold Sto.chk
    rw [if_pos hs, if_neg (by omega)]
  unfold Sto.write
  rw [hc, if_neg (by omega), show s.get 0 = txt l from h0, nbf', nbf', if_neg (by omega), if_neg (by omega), nl9']
  unfold Sto.set
  rw [if_pos rfl, hsel]
theorem cut0 {s : Sto} {room bud : Int} {l t : List UInt8} (hs : s.ok room) (hsel : s.sel = 0) (h0 : s.h0 = txt l) (hb : bud < (t.length : Int)) (hb0 : 0 ≤ bud) (hr : (l.length : Int) + (t.length : Int) ≤ room) : s.write room 0 (txt t) bud = (⟨txt (l ++ t.take bud.toNat), s.h1, 0⟩, 0, 8) := by
  have hc : s.chk room 0 bud = 0 := by
    unfold Sto.chk
    rw [if_pos hs, if_neg (by omega)]
  have he : (txt t).extract 0 bud.toNat = txt (t.take bud.toNat) := nnx' (by rw [nqy', ncl', ncl']; simp)
  unfold Sto.write
  rw [hc, if_neg (by omega), show s.get 0 = txt l from h0, nbf', nbf', if_neg (by omega), if_pos hb, he, nl9']
  unfold Sto.set
  rw [if_pos rfl, hsel]
theorem sok {l : List UInt8} (h : l.length ≤ 50) : Sto.ok sB.Room ⟨txt l, txt [], 0⟩ := by
  unfold Sto.ok
  simp only [nbf']
  show 1 ≤ (90 : Int) ∧ (90 : Int) ≤ 65536 ∧ _ ∧ _ ∧ _
  refine ⟨by omega, by omega, ?_, ?_, .inl trivial⟩
  · show (l.length : Int) ≤ 90; omega
  · show (0 : Int) ≤ 90; omega
theorem sapp1 : nd4' sB ⟨txt [], txt [], 0⟩ sM0 sR1 100 = (sS1, sM1, 94, 0) := by
  have hs := sok (l := []) (by decide)
  have hw := nyi' (t := encL sR1) (bud := 100) hs rfl rfl (by rw [nbb']; decide) (by rw [nbb']; decide)
  have hp : putV sB ⟨txt [], txt [], 0⟩ sM0 sR1 100 = (sS1, 94, 0) := by
    unfold putV
    rw [show Sto.cur ⟨txt [], txt [], 0⟩ = txt [] from rfl, nbf']
    rw [show decide ((6 : Int) ≤ sB.Room - (([] : List UInt8).length : Int)) = true from rfl, cond_true]
    exact hw
  have hf : fullV sB sM0 sR1 = false := by
    unfold fullV
    rw [room0]; rfl
  unfold nd4'
  rw [ok0, va1, decide_eq_true hs, hf, hp, ap1]
  rfl
theorem sapp2 : nd4' sB sS1 sM1 sR2 94 = (sS2, sM2, 88, 0) := by
  have hs := sok (l := encL sR1) (by rw [nbb']; decide)
  have hw := nyi' (t := encL sR2) (bud := 94) hs rfl rfl (by rw [nbb']; decide) (by rw [nbb', nbb']; decide)
  have hp : putV sB sS1 sM1 sR2 94 = (sS2, 88, 0) := by
    unfold putV
    rw [show Sto.cur sS1 = txt (encL sR1) from rfl, nbf', nbb']
    rw [show decide ((6 : Int) ≤ sB.Room - ((6 : Nat) : Int)) = true from rfl, cond_true]
    exact hw
  have hs' : Sto.ok sB.Room sS1 := hs
  unfold nd4'
  rw [ok1, va2, decide_eq_true hs', show fullV sB sM1 sR2 = false from rfl, hp, ap2]
  rfl
theorem sapp3 : nd4' sB sS2 sM2 sR3 5 = (sS3, sM2, 0, 8) := by
  have hs := sok (l := encL sR1 ++ encL sR2) (by rw [List.length_append, nbb', nbb']; decide)
  have hw := cut0 (t := encL sR3) (bud := 5) hs rfl rfl (by rw [nbb']; decide) (by decide) (by rw [List.length_append, nbb', nbb', nbb']; decide)
  have hp : putV sB sS2 sM2 sR3 5 = (sS3, 0, 8) := by
    unfold putV
    rw [show Sto.cur sS2 = txt (encL sR1 ++ encL sR2) from rfl, nbf', List.length_append, nbb', nbb']
    rw [show decide ((6 : Int) ≤ sB.Room - ((6 + 6 : Nat) : Int)) = true from rfl, cond_true]
    exact hw
  have hs' : Sto.ok sB.Room sS2 := hs
  unfold nd4'
  rw [ok2, va3, decide_eq_true hs', show fullV sB sM2 sR3 = false from rfl, hp]
  rfl
theorem srep : nb3' sB sS3 = sM2 := by
  have h := nne' nje' (show sB.Cars.length ≤ 100 by decide) (t := (encL sR3).take 5) (by rw [List.length_take, nbb']; decide) [sR1, sR2] 100 (by decide) (fun r hr => by
    simp only [List.mem_cons, List.not_mem_nil, or_false] at hr
    rcases hr with rfl | rfl
    · exact va1
    · exact va2)
  have e : readV sB sS3.cur = [sR1, sR2] := by
    refine (?_ : _ = readL sB 100 _).trans h
    have hlen : sS3.cur.size = 17 := by
      rw [show sS3.cur = txt (encL sR1 ++ encL sR2 ++ (encL sR3).take 5) from rfl, nbf']
      rfl
    unfold readV
    rw [hlen, show sS3.cur = txt (encL sR1 ++ encL sR2 ++ (encL sR3).take 5) from rfl, ncl']
    have h2 := nne' nje' (show sB.Cars.length ≤ 100 by decide) (t := (encL sR3).take 5) (by rw [List.length_take, nbb']; decide) [sR1, sR2] 17 (by decide) (fun r hr => by
      simp only [List.mem_cons, List.not_mem_nil, or_false] at hr
      rcases hr with rfl | rfl
      · exact va1
      · exact va2)
    exact h2.trans h.symm
  unfold nb3'
  rw [e]
  rfl
theorem n14' : nmy' = some ((true, ()), ()) := by
  have hb : nbr' 9 30 = some (((), ()), (sB.tup, ())) := by
    unfold nbr'
    rw [show IntKind.i64.wrap (2 + IntKind.i64.wrap (Int.tmod 9 7)) = ((4 : Nat) : Int) from rfl, show IntKind.i64.wrap (1 + IntKind.i64.wrap (Int.tmod (IntKind.u8.wrap (Int.tdiv 9 7)) 3)) = ((2 : Nat) : Int) from rfl, nia' (by decide) (by decide)]
    rfl
  have hi := nmb' sB
  rw [nh5'] at hi
  have hc : sB.Cars.length ≤ 100 := by decide
  have f1 : sM2.fit := ⟨by decide, by decide, by decide, by decide⟩
  have a1 := nkb' nje' hc ⟨txt [], txt [], 0⟩ (m := sM0) (by decide) (by decide) sR1 (bud := 100) (by decide)
  have a2 := nkb' nje' hc sS1 (m := sM1) (by decide) (by decide) sR2 (bud := 94) (by decide)
  have a3 := nkb' nje' hc sS2 (m := sM2) (by decide) (by decide) sR3 (bud := 5) (by decide)
  have r1 := nnh' nje' nh5' sS3 (by
    rw [show sS3.cur = txt (encL sR1 ++ encL sR2 ++ (encL sR3).take 5) from rfl, nbf']; show 17 ≤ 500000; omega)
  have s1 := npb' (c := sM2) f1
  rw [sapp1] at a1
  rw [sapp2] at a2
  rw [sapp3] at a3
  rw [srep] at r1
  rw [nrf'] at s1
  unfold nmy'
  rw [hb]
  simp only [Option.bind_some, Bldg.tup]
  rw [hi]
  simp only [Option.bind_some, beq_self_eq_true, cond_true, Img.tup]
  rw [show ncs' sB.Floors sB.Debounce sB.Room sB.Park sB.Empty sB.Full sB.Over sB.Cars (ByteArray.mk (Array.mk [])) (ByteArray.mk (Array.mk [])) 0 (initV sB).Phases (initV sB).Flags (initV sB).Leaving (initV sB).Entries 1 2 1 0 0 100 = _ from a1]
  simp only [Option.bind_some, nmg', Img.tup]
  rw [show ncs' sB.Floors sB.Debounce sB.Room sB.Park sB.Empty sB.Full sB.Over sB.Cars sS1.h0 sS1.h1 sS1.sel sM1.Phases sM1.Flags sM1.Leaving sM1.Entries 3 2 1 0 0 94 = _ from a2]
  simp only [Option.bind_some, nmg', Img.tup]
  rw [show ncs' sB.Floors sB.Debounce sB.Room sB.Park sB.Empty sB.Full sB.Over sB.Cars sS2.h0 sS2.h1 sS2.sel sM2.Phases sM2.Flags sM2.Leaving sM2.Entries 2 2 1 0 0 5 = _ from a3]
  simp only [Option.bind_some, nmg', Img.tup, s1]
  rw [r1]
  simp only [Option.bind_some, Img.tup, s1]
  rfl
end Go.Ovl
