/- The store (layer 8): what the reference's functions come to. -/
import Derived.Test.YthdomhdippmaiaaGreatOvStoreP
namespace Go.Ovl
open Go Go.Ab
theorem njo' (room : Int) (h0 h1 : ByteArray) (sel : Int) : nfl' room h0 h1 sel = some ((decide (Sto.ok room ⟨h0, h1, sel⟩), ()), ()) :=
  (nel' room h0 h1 sel ▸ rfl)
theorem nk4' (room : Int) (h0 h1 : ByteArray) (sel half bud : Int) : nht' room h0 h1 sel half bud = some ((Sto.chk room ⟨h0, h1, sel⟩ half bud, ()), ()) := by
  unfold nht' Sto.chk
  rw [njo']
  by_cases a : Sto.ok room ⟨h0, h1, sel⟩
  · by_cases b : half = 0
    · by_cases c : bud < 0 <;> simp [a, b, c]
    · by_cases d : half = 1
      · by_cases c : bud < 0 <;> simp [a, c, d]
      · simp [a, b, d, bne_t]
  · simp [a]
theorem n1q' (room : Int) (h0 h1 : ByteArray) (sel half bud : Int) (hb : bud < 9223372036854775808) : nlc' room h0 h1 sel half bud = some (Sto.out (Sto.erase room ⟨h0, h1, sel⟩ half bud)) := by
  unfold nlc' Sto.erase Sto.act
  rw [nk4']
  generalize hc : Sto.chk room ⟨h0, h1, sel⟩ half bud = c
  by_cases h : c = 0
  · subst h
    obtain ⟨_, hh, hb0⟩ := nlb' hc
    by_cases h2 : bud = 0
    · simp [h2, Sto.out]
    · have hin : inB half 2 = true := nc' (by omega) (by omega)
      rw [nb' (n := bud - 1) (by omega) (by omega)]
      have e : (bud == 0) = false := by simpa using h2
      rcases hh with rfl | rfl <;> simp [hin, e, h2, Sto.out, Sto.set, noB] <;> rfl
  · simp [h, Sto.out, Sto.no, noB, bne_t]
theorem n0u' (room : Int) (h0 h1 : ByteArray) (sel half bud : Int) (hb : bud < 9223372036854775808) : nj4' room h0 h1 sel half bud = some (Sto.out (Sto.choose room ⟨h0, h1, sel⟩ half bud)) := by
  unfold nj4' Sto.choose Sto.act
  rw [nk4']
  generalize hc : Sto.chk room ⟨h0, h1, sel⟩ half bud = c
  by_cases h : c = 0
  · subst h
    obtain ⟨_, hh, hb0⟩ := nlb' hc
    by_cases h2 : bud = 0
    · simp [h2, Sto.out]
    · rw [nb' (n := bud - 1) (by omega) (by omega)]
      have e : (bud == 0) = false := by simpa using h2
      simp [e, h2, Sto.out]
  · simp [h, Sto.out, Sto.no, noB, bne_t]
theorem nsb' (h0 h1 : ByteArray) (sel : Int) : njn' h0 h1 sel = some ((Sto.cur ⟨h0, h1, sel⟩, ()), ()) := by
  unfold njn' Sto.cur
  by_cases h : sel = 1 <;> simp [h, beq_f]
theorem nzu' {s : Sto} {half : Int} (hh : half = 0 ∨ half = 1) (x : ByteArray) : (s.set half x).get half = x := by rcases hh with rfl | rfl <;> rfl
theorem set_set {s : Sto} {half : Int} (hh : half = 0 ∨ half = 1) (x y : ByteArray) : (s.set half x).set half y = s.set half y := by rcases hh with rfl | rfl <;> rfl
theorem ny9' {s : Sto} {half : Int} (hh : half = 0 ∨ half = 1) : s.set half (s.get half) = s := by rcases hh with rfl | rfl <;> rfl
theorem nuy' {s : Sto} {half : Int} (hh : half = 0 ∨ half = 1) : List.getD [s.h0, s.h1] half.toNat (ByteArray.mk (Array.mk [])) = s.get half := by rcases hh with rfl | rfl <;> rfl
theorem n10' {s : Sto} {half : Int} (hh : half = 0 ∨ half = 1) (x : ByteArray) : ((bif Nat.beq half.toNat 0 then x else s.h0), ((bif Nat.beq half.toNat 1 then x else s.h1), (s.sel, ()))) = (s.set half x).tup := by
  rcases hh with rfl | rfl <;> rfl
theorem nv8' {half : Int} {d : ByteArray} {bud i : Int} {s t : Sto} (h : (d.size : Int) ≤ i) :
    ncs' half d bud i s.h0 s.h1 s.sel t.h0 t.h1 t.sel = some (.inr (.inl ((bud, ((), ((), ()))), (s.tup, (t.tup, ()))))) := by
  unfold ncs'
  have e : decide (i < (d.size : Int)) = false := by simp; omega
  rw [e]; rfl
theorem nuk' {half : Int} {d : ByteArray} {i : Int} {s t : Sto} (h : i < (d.size : Int)) :
    ncs' half d 0 i s.h0 s.h1 s.sel t.h0 t.h1 t.sel = some (.inr (.inr (((), (0, (8, ()))), (s.tup, ())))) := by
  unfold ncs'
  have e : decide (i < (d.size : Int)) = true := by simpa using h
  rw [e]; rfl
theorem nxe' {half : Int} (hh : half = 0 ∨ half = 1) {d : ByteArray} {bud : Int} {i : Nat} {s t : Sto} (h : i < d.size) (hd : d.size < 1000000) (hb : 0 < bud) (hb' : bud < 9223372036854775808) (hs : (s.get half).size < 1000000) :
    ncs' half d bud i s.h0 s.h1 s.sel t.h0 t.h1 t.sel =
      some (.inl ((half, (d, (bud - 1, ((), ((), (((i + 1 : Nat) : Int), ())))))), ((s.set half (s.get half ++ d.extract i (i + 1))).tup, (t.tup, ())))) := by
  unfold ncs'
  have e : decide ((i : Int) < (d.size : Int)) = true := by simp; omega
  have e1 : (bud == 0) = false := beq_f (by omega)
  have e2 : inB half 2 = true := nc' (by omega) (by omega)
  have w : IntKind.i64.wrap ((i : Int) + 1) = ((i + 1 : Nat) : Int) := by rw [nb' (by omega) (by omega)]; omega
  have w2 : IntKind.i64.wrap (bud - 1) = bud - 1 := nb' (by omega) (by omega)
  have e3 : (decide ((0 : Int) ≤ ((i + 1 : Nat) : Int)) && decide (((i + 1 : Nat) : Int) ≤ (d.size : Int))) = true := by simp; omega
  have e4 : (decide ((0 : Int) ≤ (i : Int)) && decide ((i : Int) ≤ ((Int.toNat ((i + 1 : Nat) : Int) : Nat) : Int))) = true := by simp; omega
  have e5 : Int.toNat ((i + 1 : Nat) : Int) = i + 1 := by omega
  have e6 : Int.toNat (i : Int) = i := by omega
  simp only [e, e1, e2, w, w2, e3, e4, cond_true, cond_false, nuy' hh]
  simp only [e5, e6]
  have e7 : Nat.ble ((s.get half).size + (d.extract i (i + 1)).size) 4611686018427387904 = true := n8' (by simp; omega)
  rw [e7, cond_true, n10' hh]
  rfl
theorem nxk' {half : Int} (hh : half = 0 ∨ half = 1) {d : ByteArray} {t : Sto} (hd : d.size ≤ 65536) : ∀ (n i : Nat) (bud : Int) (s : Sto), d.size - i = n → i ≤ d.size → 0 ≤ bud → bud < 9223372036854775808 → (s.get half).size + (d.size - i) ≤ 65536 →
    iter (fun x => ncs' x.1.1 x.1.2.1 x.1.2.2.1 x.1.2.2.2.2.2.1 x.2.1.1 x.2.1.2.1 x.2.1.2.2.1 x.2.2.1.1 x.2.2.1.2.1 x.2.2.1.2.2.1) (n + 1)
        ((half, (d, (bud, ((), ((), ((i : Int), ())))))), (s.tup, (t.tup, ()))) =
      some (if bud < (d.size : Int) - i then .inr (((), (0, (8, ()))), ((s.set half (s.get half ++ d.extract i (i + bud.toNat))).tup, ()))
        else .inl ((bud - ((d.size : Int) - i), ((), ((), ()))), ((s.set half (s.get half ++ d.extract i d.size)).tup, (t.tup, ()))))
  | 0, i, bud, s, hn, hi, hb, hb', hs => by
    have : i = d.size := by omega
    subst this
    refine n1' (y := _) ?_
    rw [if_neg (by omega), nvp', nsi', ny9' hh]
    show ncs' half d bud (d.size : Int) s.h0 s.h1 s.sel t.h0 t.h1 t.sel = _
    rw [nv8' (Int.le_refl _)]
    simp
  | n + 1, i, bud, s, hn, hi, hb, hb', hs => by
    by_cases h0 : bud = 0
    · subst h0
      refine n1' (y := _) ?_
      rw [if_pos (by omega)]
      show ncs' half d 0 (i : Int) s.h0 s.h1 s.sel t.h0 t.h1 t.sel = _
      rw [nuk' (by omega)]
      simp only [Int.toNat_zero, Nat.add_zero, nvp', nsi', ny9' hh]
    · rw [nbx' (show ncs' half d bud (i : Int) s.h0 s.h1 s.sel t.h0 t.h1 t.sel = _ from nxe' hh (by omega) (by omega) (by omega) hb' (by omega)),
        nxk' hh hd n (i + 1) (bud - 1) _ (by omega) (by omega) (by omega) (by omega) (by rw [nzu' hh]; simp; omega)]
      rw [nzu' hh, set_set hh, set_set hh, ByteArray.append_assoc, ByteArray.append_assoc]
      by_cases h1 : bud < (d.size : Int) - i
      · rw [if_pos h1, if_pos (by omega), nx2' d (by omega) (by omega), show i + 1 + (bud - 1).toNat = i + bud.toNat by omega]
      · rw [if_neg h1, if_neg (by omega), nx2' d (by omega) (by omega)]
        congr 3
        have : bud - 1 - ((d.size : Int) - ((i + 1 : Nat) : Int)) = bud - ((d.size : Int) - i) := by omega
        rw [this]
theorem nts' (room : Int) (h0 h1 : ByteArray) (sel half : Int) (d : ByteArray) (bud : Int) (hb : bud < 9223372036854775808) (hd : d.size < 1000000) :
    nlj' room h0 h1 sel half d bud = some (Sto.out (Sto.write room ⟨h0, h1, sel⟩ half d bud)) := by
  unfold nlj' Sto.write
  rw [nk4']
  generalize hc : Sto.chk room ⟨h0, h1, sel⟩ half bud = c
  by_cases h : c = 0
  · subst h
    obtain ⟨⟨o1, o2, o3, o4, o5⟩, hh, hb0⟩ := nlb' hc
    simp only at o3 o4
    have hin : inB half 2 = true := nc' (by omega) (by omega)
    have hg : List.getD [h0, h1] half.toNat (ByteArray.mk (Array.mk [])) = Sto.get ⟨h0, h1, sel⟩ half := nuy' (s := ⟨h0, h1, sel⟩) hh
    have hgs : ((Sto.get ⟨h0, h1, sel⟩ half).size : Int) ≤ room := by rcases hh with rfl | rfl <;> simpa [Sto.get]
    simp only [Option.bind_some, hin, cond_true, hg]
    rw [nb' (n := ((Sto.get ⟨h0, h1, sel⟩ half).size : Int) + d.size) (by omega) (by omega)]
    by_cases h2 : room < ((Sto.get ⟨h0, h1, sel⟩ half).size : Int) + d.size
    · simp [h2, Sto.out, Sto.no, noB]
    · have hl := nxk' (t := Sto.no) hh (d := d) (by omega) d.size 0 bud ⟨h0, h1, sel⟩ (by omega) (by omega) hb0 hb (by omega)
      have hl' : nhg' ((half, (d, (bud, ((), ((), ((0 : Int), ())))))), ((Sto.tup ⟨h0, h1, sel⟩), (Sto.no.tup, ()))) = _ := nd' hl (by omega)
      have e : decide (room < ((Sto.get ⟨h0, h1, sel⟩ half).size : Int) + d.size) = false := by simpa using h2
      have z : ((0 : Int) != 0) = false := rfl
      simp only [z, cond_false, h2, if_false, ne_eq, not_true_eq_false]
      show (nhg' ((half, (d, (bud, ((), ((), ((0 : Int), ())))))), ((Sto.tup ⟨h0, h1, sel⟩), (Sto.no.tup, ())))).bind _ = _
      rw [hl']
      by_cases h3 : bud < d.size
      · rw [if_pos (by omega), if_pos h3]
        simp [Sto.out, Sto.tup]
      · rw [if_neg (by omega), if_neg h3]
        simp [Sto.out, Sto.tup]
  · simp [h, Sto.out, Sto.no, noB, bne_t]
end Go.Ovl
