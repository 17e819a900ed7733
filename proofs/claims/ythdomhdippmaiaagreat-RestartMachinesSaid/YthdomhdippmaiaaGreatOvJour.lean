/- Layer 10: compacting, appending and replaying, the program's side. -/
import Derived.Test.YthdomhdippmaiaaGreatOvRec
import Derived.Test.YthdomhdippmaiaaGreatOvStoreP
namespace Go.Ovl
open Go Go.Ab
set_option maxRecDepth 100000
theorem ncj' {b : Bldg} (h : b.code = 0) : 1 ≤ b.Cars.length ∧ b.Cars.length ≤ 8 := by
  unfold Bldg.code at h
  cases h1 : inR 1 8 (b.Cars.length : Int) with
  | true => have := nv'.1 h1; omega
  | false =>
    rw [h1] at h
    cases h2 : inR 2 32 b.Floors <;> rw [h2] at h <;> simp at h
theorem nvf' {b : Bldg} (h : b.code = 0) : 18 * (b.Cars.length : Int) + 24 ≤ b.Room ∧ b.Room ≤ 65536 := by
  unfold Bldg.code at h
  cases h1 : inR (18 * (b.Cars.length : Int) + 24) 65536 b.Room with
  | true => exact nv'.1 h1
  | false =>
    rw [h1] at h
    simp only [Bool.not_false, cond_true] at h
    revert h
    cases inR 2 32 b.Floors <;> cases inR 1 8 (b.Cars.length : Int) <;> cases inR 1 16 b.Debounce <;> cases inR 1 10000 b.Park <;> cases b.Cars.all (ncy' b.Floors) <;> cases b.loadsOK <;> (intro h; simp at h)
def natsL (l : List UInt8) : List Int := l.map fun x => (x.toNat : Int)
theorem nzy' (l : List UInt8) : textU (natsL l) = txt l := by
  rw [nwf']
  unfold natsL
  rw [List.map_map]
  congr 1
  conv => rhs; rw [← List.map_id l]
  refine List.map_congr_left fun x _ => ?_
  show UInt8.ofNat (Int.toNat (x.toNat : Int)) = x
  rw [Int.toNat_natCast, UInt8.ofNat_toNat]
theorem n4c' (l : List UInt8) : (natsL l).all (fun n => decide (0 ≤ n) && decide (n < 256)) = true := by
  rw [List.all_eq_true]
  intro n hn
  obtain ⟨x, _, rfl⟩ := List.mem_map.1 hn
  have : x.toNat < 256 := UInt8.toNat_lt x
  simp only [Bool.and_eq_true, decide_eq_true_eq]
  omega
theorem n1u' {l : List UInt8} (h : l ≠ []) : nds' (natsL l) = some ((txt l, ()), (((), natsL l, ()), ())) := by
  unfold nds'
  rw [n4c', nzy', show someL (natsL l) = true by
    cases l with
    | nil => exact absurd rfl h
    | cons a t => rfl]
  rfl
theorem n3w' (s : ByteArray) {l : List UInt8} (h : l.length + s.size ≤ 2147483648) : ncz' s (natsL l) = some (((s.size : Int), (), ()), (((), natsL (l ++ bl s), ()), ())) := by
  unfold ncz' wsF
  rw [show (natsL l).length = l.length from List.length_map _, nbn' h]
  unfold natsL bl
  rw [List.map_append]
  rfl
theorem n1p' (b : Bldg) (r : Record) : (bl (encR b r)).length ≤ 6 := by
  unfold encR
  cases n4' b r with
  | true => rw [cond_true, nig', nkx']; omega
  | false => rw [cond_false, nig']; simp
theorem nz2' {b : Bldg} {r : Record} (h : n4' b r = true) : encR b r = txt (encL r) := by unfold encR; rw [h]; rfl
theorem nwx' {b : Bldg} : ∀ {rs : List Record}, (∀ r ∈ rs, n4' b r = true) → rs.flatMap (fun r => bl (encR b r)) = rs.flatMap encL
  | [], _ => rfl
  | r :: t, h => by
    rw [List.flatMap_cons, List.flatMap_cons, nz2' (h r (List.mem_cons_self ..)), nig', nwx' fun x hx => h x (List.mem_cons_of_mem _ hx)]
theorem ntm' (rs : List Record) : (rs.flatMap encL).length = 6 * rs.length := by
  induction rs with
  | nil => rfl
  | cons r t ih => rw [List.flatMap_cons, List.length_append, ih, nkx', List.length_cons]; omega
section
variable {b : Bldg} (hb : b.small) (hc : b.Cars.length ≤ 100)
include hb hc
theorem nx3' (bud : Int) {rs : List Record} (hl : rs.length ≤ 1000000) (s t : Sto) : nhw' ((bud, (), (), (), (), rs, (rs.length : Int), (0 : Int), ()), (b.tup, (s.h0, s.h1, s.sel, ()), (t.h0, t.h1, t.sel, ()), ((), [], ()), ())) = some ((bud, (), (), (), (), ()), (b.tup, (s.h0, s.h1, s.sel, ()), (t.h0, t.h1, t.sel, ()), ((), natsL (rs.flatMap fun r => bl (encR b r)), ()), ())) := by
  have h := ndr' (step := fun x => nen' x.1.1 x.1.2.2.2.2.2.1 x.1.2.2.2.2.2.2.1 x.1.2.2.2.2.2.2.2.1 x.2.1.1 x.2.1.2.1 x.2.1.2.2.1 x.2.1.2.2.2.1 x.2.1.2.2.2.2.1 x.2.1.2.2.2.2.2.1 x.2.1.2.2.2.2.2.2.1 x.2.1.2.2.2.2.2.2.2.1 x.2.2.1.1 x.2.2.1.2.1 x.2.2.1.2.2.1 x.2.2.2.1.1 x.2.2.2.1.2.1 x.2.2.2.1.2.2.1 x.2.2.2.2.1.2.1) rs.length
    (fun i (l : List UInt8) => ((bud, (), (), (), (), rs, (rs.length : Int), (i : Int), ()), (b.tup, (s.h0, s.h1, s.sel, ()), (t.h0, t.h1, t.sel, ()), ((), natsL l, ()), ()))) (fun i l => l ++ bl (encR b (rs.getD i (Record.mk 0 0 0 0 0)))) (fun i l => l.length ≤ 6 * i) (fun l => ((bud, (), (), (), (), ()), (b.tup, (s.h0, s.h1, s.sel, ()), (t.h0, t.h1, t.sel, ()), ((), natsL l, ()), ()))) (fun i l hi hs => by
      have he := n1p' b (rs.getD i (Record.mk 0 0 0 0 0))
      refine ⟨?_, by rw [List.length_append]; omega⟩
      show nen' bud rs (rs.length : Int) (i : Int) b.Floors b.Debounce b.Room b.Park b.Empty b.Full b.Over b.Cars s.h0 s.h1 s.sel t.h0 t.h1 t.sel (natsL l) = _
      unfold nen'
      simp only [decide_eq_true (show (i : Int) < (rs.length : Int) by omega), nc' (show (0 : Int) ≤ (i : Int) by omega) (show (i : Int) < (rs.length : Int) by omega), cond_true, Int.toNat_natCast, nru' hb hc, Option.bind_some, n3w' (encR b (rs.getD i (Record.mk 0 0 0 0 0))) (l := l) (by rw [← nhc']; omega), wrap1 hi (show rs.length ≤ ng' by unfold ng'; omega)]
      rfl) (fun l _ => by
      show nen' bud rs (rs.length : Int) (rs.length : Int) b.Floors b.Debounce b.Room b.Park b.Empty b.Full b.Over b.Cars s.h0 s.h1 s.sel t.h0 t.h1 t.sel (natsL l) = _
      unfold nen'
      simp only [decide_eq_false (Int.lt_irrefl (rs.length : Int)), cond_false]
      rfl) rs.length 0 [] (by omega) (by simp)
  have h' := nf' h.1 (by omega)
  have e : foldN (fun i l => l ++ bl (encR b (rs.getD i (Record.mk 0 0 0 0 0)))) rs.length 0 [] = rs.flatMap fun r => bl (encR b r) := by
    rw [ngt' (fun i => bl (encR b (rs.getD i (Record.mk 0 0 0 0 0)))), List.nil_append, nkb' (fun r => bl (encR b r)) (Record.mk 0 0 0 0 0) rs 0 rs.length (by omega), List.drop_zero]
  rw [e] at h'
  exact h'
end
def net' (b : Bldg) (s : Sto) (m : Img) (bud : Int) : Sto × Int × Int :=
  bif !(decide (s.ok b.Room)) then (Sto.no, 0, 1) else bif decide (bud < 0) then (Sto.no, 0, 1) else bif !(m.ok b) then (Sto.no, 0, 1) else
  bif ((s.erase b.Room (1 - s.sel) bud).2.2 == 0) then
    (bif (((s.erase b.Room (1 - s.sel) bud).1.write b.Room (1 - s.sel) (txt ((snapV m).flatMap encL)) (s.erase b.Room (1 - s.sel) bud).2.1).2.2 == 0) then
      ((s.erase b.Room (1 - s.sel) bud).1.write b.Room (1 - s.sel) (txt ((snapV m).flatMap encL)) (s.erase b.Room (1 - s.sel) bud).2.1).1.choose b.Room (1 - s.sel) ((s.erase b.Room (1 - s.sel) bud).1.write b.Room (1 - s.sel) (txt ((snapV m).flatMap encL)) (s.erase b.Room (1 - s.sel) bud).2.1).2.1
    else (s.erase b.Room (1 - s.sel) bud).1.write b.Room (1 - s.sel) (txt ((snapV m).flatMap encL)) (s.erase b.Room (1 - s.sel) bud).2.1)
  else s.erase b.Room (1 - s.sel) bud
theorem n4t' (room : Int) (s : Sto) (half bud : Int) (t : Sto) (hb : bud < 9223372036854775808) : (s.act room half bud t).2.1 < 9223372036854775808 := by
  unfold Sto.act
  split
  · show (0 : Int) < _; omega
  · split
    · show (0 : Int) < _; omega
    · show bud - 1 < _; omega
theorem n2b' (room : Int) (s : Sto) (half : Int) (d : ByteArray) (bud : Int) (hb : bud < 9223372036854775808) : (s.write room half d bud).2.1 < 9223372036854775808 := by
  unfold Sto.write
  split
  · show (0 : Int) < _; omega
  · split
    · show (0 : Int) < _; omega
    · split
      · show (0 : Int) < _; omega
      · show bud - (d.size : Int) < _; omega
theorem nt3' {b : Bldg} (hb : b.small) (hc : b.Cars.length ≤ 100) (s : Sto) {m : Img} (hf : m.fit) {bud : Int} (hbud : bud < 9223372036854775808) :
    ni9' b.Floors b.Debounce b.Room b.Park b.Empty b.Full b.Over b.Cars s.h0 s.h1 s.sel m.Phases m.Flags m.Leaving m.Entries bud = some (Sto.out (net' b s m bud)) := by
  have hmx : 100000 ≤ maxLen := by decide
  have hp := hf.p
  have he := hf.e
  unfold ni9' net'
  rw [nee', nkz' hb m (by omega) (by omega), nst' hb hf]
  simp only [Option.bind_some]
  by_cases hs : s.ok b.Room
  · rw [decide_eq_true (show Sto.ok b.Room ⟨s.h0, s.h1, s.sel⟩ from hs)]
    by_cases hb0 : bud < 0
    · rw [decide_eq_true hb0]; rfl
    rw [decide_eq_false hb0]
    cases hok : m.ok b with
    | false => rfl
    | true =>
      have hm := Img.ok_iff.1 hok
      have hcars := ncj' hm.code
      have hlp := hm.lp
      have hsn : snapR b m = snapV m := by unfold snapR; rw [hok]; rfl
      have hsl := nvt' m
      have hne : (snapV m).flatMap encL ≠ [] := fun h0 => by
        have h1 := ntm' (snapV m)
        rw [h0, hsl, List.length_nil] at h1
        omega
      have hloop := nx3' hb hc bud (rs := snapV m) (by rw [hsl]; omega) s Sto.no
      rw [nwx' (nr7' hm)] at hloop
      simp only [Bldg.tup, Sto.no, noB] at hloop
      have hsel : IntKind.i64.wrap (1 - s.sel) = 1 - s.sel := by
        obtain ⟨_, _, _, _, h5⟩ := hs
        exact nb' (by omega) (by omega)
      simp only [Bool.not_true, cond_false, hsn, hloop, Option.bind_some, hsel, nz9' _ _ _ _ _ _ hbud, Sto.out]
      have hb1 := n4t' b.Room s (1 - s.sel) bud (s.set (1 - s.sel) noB) hbud
      rw [show s.act b.Room (1 - s.sel) bud (s.set (1 - s.sel) noB) = s.erase b.Room (1 - s.sel) bud from rfl] at hb1
      rw [show Sto.mk s.h0 s.h1 s.sel = s from rfl]
      generalize s.erase b.Room (1 - s.sel) bud = r1 at hb1 ⊢
      cases hq : r1.2.2 == 0 with
      | false =>
        simp only [cond_false, Option.bind_some, hq]
      | true =>
        simp only [cond_true, n1u' hne, Option.bind_some, nrn' _ _ _ _ _ _ _ hb1, Sto.out]
        have hb2 := n2b' b.Room r1.1 (1 - s.sel) (txt ((snapV m).flatMap encL)) r1.2.1 hb1
        rw [show Sto.mk r1.1.h0 r1.1.h1 r1.1.sel = r1.1 from rfl]
        generalize r1.1.write b.Room (1 - s.sel) (txt ((snapV m).flatMap encL)) r1.2.1 = r2 at hb2 ⊢
        cases hq2 : r2.2.2 == 0 with
        | false => simp only [cond_false]
        | true =>
          simp only [cond_true, nyp' _ _ _ _ _ _ hb2, Option.bind_some, Sto.out]
  · rw [decide_eq_false (show ¬ Sto.ok b.Room ⟨s.h0, s.h1, s.sel⟩ from hs)]
    rfl
theorem nyk' {b : Bldg} {rs : List Record} (hv : ∀ r ∈ rs, n4' b r = true) (hl : rs.length ≤ 90000) (m0 m : Img) (hm : ImgOK b m) (hml : m.Entries.length = 0) :
    nii' (((), (), rs, (rs.length : Int), (0 : Int), ()), (m0.tup, m.tup, ())) = some (((), (), ()), (m0.tup, (nci' m rs).tup, ())) := by
  have hcars := ncj' hm.code
  have h := ndr' (step := fun x => ne3' x.1.2.2.1 x.1.2.2.2.1 x.1.2.2.2.2.1 x.2.1.1 x.2.1.2.1 x.2.1.2.2.1 x.2.1.2.2.2.1 x.2.2.1.1 x.2.2.1.2.1 x.2.2.1.2.2.1 x.2.2.1.2.2.2.1) rs.length
    (fun i (m : Img) => (((), (), rs, (rs.length : Int), (i : Int), ()), (m0.tup, m.tup, ()))) (fun i m => ncl' m (rs.getD i (Record.mk 0 0 0 0 0))) (fun i m => ImgOK b m ∧ m.Entries.length ≤ i) (fun m => (((), (), ()), (m0.tup, m.tup, ()))) (fun i m hi hs => by
      obtain ⟨hm, hle⟩ := hs
      have hr := hv _ (nes' (Record.mk 0 0 0 0 0) hi)
      obtain ⟨a1, a2⟩ := npe' hm hr
      refine ⟨?_, a1, by omega⟩
      show ne3' rs (rs.length : Int) (i : Int) m0.Phases m0.Flags m0.Leaving m0.Entries m.Phases m.Flags m.Leaving m.Entries = _
      unfold ne3'
      simp only [decide_eq_true (show (i : Int) < (rs.length : Int) by omega), nc' (show (0 : Int) ≤ (i : Int) by omega) (show (i : Int) < (rs.length : Int) by omega), cond_true, Int.toNat_natCast, wrap1 hi (show rs.length ≤ ng' by unfold ng'; omega)]
      rw [nv6' hm.so (by omega) (rs.getD i (Record.mk 0 0 0 0 0)) fun hk => by
        have h0 := nl1' hr hk
        have h1 := hm.lp
        have h2 := hm.lf
        have h3 := hm.ll
        omega]
      rfl) (fun m _ => by
      show ne3' rs (rs.length : Int) (rs.length : Int) m0.Phases m0.Flags m0.Leaving m0.Entries m.Phases m.Flags m.Leaving m.Entries = _
      unfold ne3'
      simp only [decide_eq_false (Int.lt_irrefl (rs.length : Int)), cond_false]
      rfl) rs.length 0 m (by omega) ⟨hm, by omega⟩
  have h' := nf' h.1 (by omega)
  have e : ∀ (l : List Record) (m : Img), l.foldl ncl' m = nci' m l := fun l => by
    induction l with
    | nil => exact fun m => rfl
    | cons r t ih => exact fun m => ih (ncl' m r)
  rw [nno' ncl' (Record.mk 0 0 0 0 0) rs rs.length 0 m (by omega), List.drop_zero, e] at h'
  exact h'
def ndc' (b : Bldg) (s : Sto) : Img := nci' (initV b) (readV b s.cur)
theorem nv0' {b : Bldg} (hb : b.small) (hcode : b.code = 0) (s : Sto) (hs : s.cur.size ≤ 500000) :
    nj1' b.Floors b.Debounce b.Room b.Park b.Empty b.Full b.Over b.Cars s.h0 s.h1 s.sel = some (((), ()), ((ndc' b s).tup, ())) := by
  have hcars := ncj' hcode
  obtain ⟨n, hr⟩ := ntl' hb (by omega) hcode s.cur (by omega)
  have hlen : (readV b s.cur).length ≤ 90000 := by
    have := nps' b s.cur.size (bl s.cur)
    rw [nhc'] at this
    unfold readV; omega
  have hl := nyk' (b := b) (rs := readV b s.cur) (fun r hr => nnr' b _ _ r hr) hlen Img.none (initV b) (nmp' hcode) rfl
  unfold nj1'
  rw [ntq', hcode, npa']
  simp only [Option.bind_some, beq_self_eq_true, cond_true]
  rw [show Sto.cur ⟨s.h0, s.h1, s.sel⟩ = s.cur from rfl, hr]
  simp only [Option.bind_some]
  simp only [Img.tup, Img.none] at hl ⊢
  rw [hl]
  rfl
end Go.Ovl
