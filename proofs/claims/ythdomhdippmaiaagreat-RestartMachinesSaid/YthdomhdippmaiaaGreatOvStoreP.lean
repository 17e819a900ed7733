/- The store (layer 8): what the program's functions come to. -/
import Derived.Test.YthdomhdippmaiaaGreatDefs2
import Derived.Test.YthdomhdippmaiaaGreatOvBase
namespace Go.Ovl
open Go Go.Ab
structure Sto where
  h0 : ByteArray
  h1 : ByteArray
  sel : Int
def Sto.get (s : Sto) (half : Int) : ByteArray := if half = 0 then s.h0 else s.h1
def Sto.set (s : Sto) (half : Int) (x : ByteArray) : Sto := if half = 0 then { s with h0 := x } else { s with h1 := x }
def Sto.no : Sto := ⟨noB, noB, 0⟩
def Sto.cur (s : Sto) : ByteArray := if s.sel = 1 then s.h1 else s.h0
def Sto.ok (room : Int) (s : Sto) : Prop := 1 ≤ room ∧ room ≤ 65536 ∧ s.h0.size ≤ room ∧ s.h1.size ≤ room ∧ (s.sel = 0 ∨ s.sel = 1)
instance (room : Int) (s : Sto) : Decidable (s.ok room) := by unfold Sto.ok; infer_instance
def Sto.tup (s : Sto) : ByteArray × ByteArray × Int × Unit := (s.h0, (s.h1, (s.sel, ())))
def Sto.chk (room : Int) (s : Sto) (half bud : Int) : Int := if s.ok room then if (half ≠ 0 ∧ half ≠ 1) ∨ bud < 0 then 2 else 0 else 1
def Sto.write (room : Int) (s : Sto) (half : Int) (d : ByteArray) (bud : Int) : Sto × Int × Int :=
  if s.chk room half bud ≠ 0 then (.no, 0, s.chk room half bud)
  else if room < (s.get half).size + d.size then (.no, 0, 7)
  else if bud < d.size then (s.set half (s.get half ++ d.extract 0 bud.toNat), 0, 8)
  else (s.set half (s.get half ++ d), bud - d.size, 0)
def Sto.act (room : Int) (s : Sto) (half bud : Int) (t : Sto) : Sto × Int × Int :=
  if s.chk room half bud ≠ 0 then (.no, 0, s.chk room half bud) else if bud = 0 then (s, 0, 8) else (t, bud - 1, 0)
def Sto.erase (room : Int) (s : Sto) (half bud : Int) : Sto × Int × Int := s.act room half bud (s.set half noB)
def Sto.choose (room : Int) (s : Sto) (half bud : Int) : Sto × Int × Int := s.act room half bud { s with sel := half }
def Sto.out (r : Sto × Int × Int) : (Unit × Int × Int × Unit) × ((ByteArray × ByteArray × Int × Unit) × Unit) := (((), (r.2.1, (r.2.2, ()))), ((r.1.h0, (r.1.h1, (r.1.sel, ()))), ()))
theorem nee' (room : Int) (h0 h1 : ByteArray) (sel : Int) : nc6' room h0 h1 sel = some ((decide (Sto.ok room ⟨h0, h1, sel⟩), ()), ()) := by
  unfold nc6' Sto.ok
  by_cases a : 1 ≤ room
  · by_cases b : room ≤ 65536
    · by_cases c : (h0.size : Int) ≤ room
      · by_cases d : (h1.size : Int) ≤ room
        · by_cases e : sel = 0
          · simp [a, b, c, d, e]
          · by_cases f : sel = 1 <;> simp [a, b, c, d, e, f, beq_f]
        · simp [a, b, c, d]
      · simp [a, b, c]
    · simp [a, b]
  · simp [a]
theorem njn' (room : Int) (h0 h1 : ByteArray) (sel half bud : Int) : nfd' room h0 h1 sel half bud = some ((Sto.chk room ⟨h0, h1, sel⟩ half bud, ()), ()) := by
  unfold nfd' Sto.chk
  rw [nee']
  by_cases a : Sto.ok room ⟨h0, h1, sel⟩
  · by_cases b : half = 0
    · by_cases c : bud < 0 <;> simp [a, b, c]
    · by_cases d : half = 1
      · by_cases c : bud < 0 <;> simp [a, c, d]
      · simp [a, b, d, bne_t]
  · simp [a]
theorem nrf' {room : Int} {s : Sto} {half bud : Int} (h : s.chk room half bud = 0) : s.ok room ∧ (half = 0 ∨ half = 1) ∧ 0 ≤ bud := by
  unfold Sto.chk at h
  split at h
  · split at h
    · cases h
    · rename_i h1 h2; refine ⟨h1, ?_, ?_⟩ <;> omega
  · cases h
theorem nrn' (room : Int) (h0 h1 : ByteArray) (sel half : Int) (d : ByteArray) (bud : Int) (hb : bud < 9223372036854775808) :
    njf' room h0 h1 sel half d bud = some (Sto.out (Sto.write room ⟨h0, h1, sel⟩ half d bud)) := by
  unfold njf' Sto.write
  rw [njn']
  generalize hc : Sto.chk room ⟨h0, h1, sel⟩ half bud = c
  by_cases h : c = 0
  · subst h
    obtain ⟨⟨o1, o2, o3, o4, o5⟩, hh, hb0⟩ := nrf' hc
    simp only at o3 o4
    have hin : inB half 2 = true := nc' (by omega) (by omega)
    have hg : (List.getD [h0, h1] half.toNat noB) = Sto.get ⟨h0, h1, sel⟩ half := by
      rcases hh with rfl | rfl <;> rfl
    have hgs : ((Sto.get ⟨h0, h1, sel⟩ half).size : Int) ≤ room := by rcases hh with rfl | rfl <;> simpa [Sto.get]
    have hset : ∀ x : ByteArray, ((bif Nat.beq half.toNat 0 then x else h0), ((bif Nat.beq half.toNat 1 then x else h1), (sel, ()))) = ((Sto.set ⟨h0, h1, sel⟩ half x).h0, ((Sto.set ⟨h0, h1, sel⟩ half x).h1, ((Sto.set ⟨h0, h1, sel⟩ half x).sel, ()))) := by
      intro x; rcases hh with rfl | rfl <;> rfl
    have hg' : (List.getD [h0, h1] half.toNat (ByteArray.mk (Array.mk []))) = Sto.get ⟨h0, h1, sel⟩ half := hg
    simp only [Option.bind_some, hin, cond_true, hg', hset]
    generalize Sto.get ⟨h0, h1, sel⟩ half = g at hgs ⊢
    rw [nb' (n := room - g.size) (by omega) (by omega)]
    by_cases h2 : room < (g.size : Int) + d.size
    · have e : decide (room - (g.size : Int) < d.size) = true := by simp; omega
      simp [e, h2, Sto.out, Sto.no, noB]
    · have e : decide (room - (g.size : Int) < d.size) = false := by simp; omega
      by_cases h3 : bud < d.size
      · have e2 : decide (bud < (d.size : Int)) = true := by simpa using h3
        have e3 : (decide (0 ≤ bud) && decide (bud ≤ (d.size : Int))) = true := by simp; omega
        have e4 : Nat.ble (g.size + (d.extract 0 bud.toNat).size) 4611686018427387904 = true := by
          rw [n4m' d (by omega)]; exact nbn' (by omega)
        simp only [e, e3, e4, h2, h3, cond_true, cond_false, if_true, if_false, Sto.out]
        simp
      · have e2 : decide (bud < (d.size : Int)) = false := by simpa using h3
        have e4 : Nat.ble (g.size + d.size) 4611686018427387904 = true := nbn' (by omega)
        rw [nb' (n := bud - d.size) (by omega) (by omega)]
        simp only [e, e4, h2, h3, cond_true, cond_false, if_false, Sto.out]
        simp
  · simp [h, Sto.out, Sto.no, noB, bne_t]
theorem nz9' (room : Int) (h0 h1 : ByteArray) (sel half bud : Int) (hb : bud < 9223372036854775808) : njc' room h0 h1 sel half bud = some (Sto.out (Sto.erase room ⟨h0, h1, sel⟩ half bud)) := by
  unfold njc' ner' Sto.erase Sto.act
  rw [njn']
  generalize hc : Sto.chk room ⟨h0, h1, sel⟩ half bud = c
  by_cases h : c = 0
  · subst h
    obtain ⟨_, hh, hb0⟩ := nrf' hc
    by_cases h2 : bud = 0
    · simp [h2, Sto.out]
    · have hin : inB half 2 = true := nc' (by omega) (by omega)
      unfold nj4'
      rw [nb' (n := bud - 1) (by omega) (by omega)]
      have e : (bud == 0) = false := by simpa using h2
      rcases hh with rfl | rfl <;> simp [hin, e, h2, Sto.out, Sto.set, noB] <;> rfl
  · simp [h, Sto.out, Sto.no, noB, bne_t]
theorem nyp' (room : Int) (h0 h1 : ByteArray) (sel half bud : Int) (hb : bud < 9223372036854775808) : nio' room h0 h1 sel half bud = some (Sto.out (Sto.choose room ⟨h0, h1, sel⟩ half bud)) := by
  unfold nio' neg' Sto.choose Sto.act
  rw [njn']
  generalize hc : Sto.chk room ⟨h0, h1, sel⟩ half bud = c
  by_cases h : c = 0
  · subst h
    obtain ⟨_, hh, hb0⟩ := nrf' hc
    by_cases h2 : bud = 0
    · simp [h2, Sto.out]
    · unfold njq'
      rw [nb' (n := bud - 1) (by omega) (by omega)]
      have e : (bud == 0) = false := by simpa using h2
      simp [e, h2, Sto.out]
  · simp [h, Sto.out, Sto.no, noB, bne_t]
theorem npa' (h0 h1 : ByteArray) (sel : Int) : nh2' h0 h1 sel = some ((Sto.cur ⟨h0, h1, sel⟩, ()), ()) := by
  unfold nh2' Sto.cur
  by_cases h : sel = 1 <;> simp [h, beq_f]
end Go.Ovl
