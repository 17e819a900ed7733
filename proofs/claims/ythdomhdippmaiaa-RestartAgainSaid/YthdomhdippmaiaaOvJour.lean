/- Layer 10: compacting, appending and replaying, the program's side. -/
import Derived.Test.YthdomhdippmaiaaOvRec
import Derived.Test.YthdomhdippmaiaaOvStoreP
namespace Go.Ovl
open Go Go.Ab
set_option maxRecDepth 100000
theorem ndp' {b : Bldg} (h : b.code = 0) : 1 ≤ b.Cars.length ∧ b.Cars.length ≤ 8 := by
  unfold Bldg.code at h
  cases h1 : inR 1 8 (b.Cars.length : Int) with
  | true => have := ny'.1 h1; omega
  | false =>
    rw [h1] at h
    cases h2 : inR 2 32 b.Floors <;> rw [h2] at h <;> simp at h
theorem nn6' {b : Bldg} (h : b.code = 0) : 18 * (b.Cars.length : Int) + 24 ≤ b.Room ∧ b.Room ≤ 65536 := by
  unfold Bldg.code at h
  cases h1 : inR (18 * (b.Cars.length : Int) + 24) 65536 b.Room with
  | true => exact ny'.1 h1
  | false =>
    rw [h1] at h
    simp only [Bool.not_false, cond_true] at h
    revert h
    cases inR 2 32 b.Floors <;> cases inR 1 8 (b.Cars.length : Int) <;> cases inR 1 16 b.Debounce <;> cases inR 1 10000 b.Park <;> cases b.Cars.all (ncy' b.Floors) <;> cases b.loadsOK <;> (intro h; simp at h)
def natsL (l : List UInt8) : List Int := l.map fun x => (x.toNat : Int)
theorem nw5' (l : List UInt8) : textU (natsL l) = txt l := by
  rw [np0']
  unfold natsL
  rw [List.map_map]
  congr 1
  conv => rhs; rw [← List.map_id l]
  refine List.map_congr_left fun x _ => ?_
  show UInt8.ofNat (Int.toNat (x.toNat : Int)) = x
  rw [Int.toNat_natCast, UInt8.ofNat_toNat]
theorem n0a' (l : List UInt8) : (natsL l).all (fun n => decide (0 ≤ n) && decide (n < 256)) = true := by
  rw [List.all_eq_true]
  intro n hn
  obtain ⟨x, _, rfl⟩ := List.mem_map.1 hn
  have : x.toNat < 256 := UInt8.toNat_lt x
  simp only [Bool.and_eq_true, decide_eq_true_eq]
  omega
theorem ny3' {l : List UInt8} (h : l ≠ []) : nc3' (natsL l) = some ((txt l, ()), (((), natsL l, ()), ())) := by
  unfold nc3'
  rw [n0a', nw5', show someL (natsL l) = true by
    cases l with
    | nil => exact absurd rfl h
    | cons a t => rfl]
  rfl
theorem nzu' (s : ByteArray) {l : List UInt8} (h : l.length + s.size ≤ 2147483648) : nck' s (natsL l) = some (((s.size : Int), (), ()), (((), natsL (l ++ bl s), ()), ())) := by
  unfold nck' wsF
  rw [show (natsL l).length = l.length from List.length_map _, n9' h]
  unfold natsL bl
  rw [List.map_append]
  rfl
theorem nsf' (b : Bldg) (r : Record) : (bl (encR b r)).length ≤ 6 := by
  unfold encR
  cases nj' b r with
  | true => rw [cond_true, ncl', nbb']; omega
  | false => rw [cond_false, ncl']; simp
theorem nm1' {b : Bldg} {r : Record} (h : nj' b r = true) : encR b r = txt (encL r) := by unfold encR; rw [h]; rfl
theorem nps' {b : Bldg} : ∀ {rs : List Record}, (∀ r ∈ rs, nj' b r = true) → rs.flatMap (fun r => bl (encR b r)) = rs.flatMap encL
  | [], _ => rfl
  | r :: t, h => by
    rw [List.flatMap_cons, List.flatMap_cons, nm1' (h r (List.mem_cons_self ..)), ncl', nps' fun x hx => h x (List.mem_cons_of_mem _ hx)]
theorem nr3' (rs : List Record) : (rs.flatMap encL).length = 6 * rs.length := by
  induction rs with
  | nil => rfl
  | cons r t ih => rw [List.flatMap_cons, List.length_append, ih, nbb', List.length_cons]; omega
section
variable {b : Bldg} (hb : b.small) (hc : b.Cars.length ≤ 100)
include hb hc
theorem nup' (bud : Int) {rs : List Record} (hl : rs.length ≤ 1000000) (s t : Sto) : ngl' ((bud, (), (), (), (), rs, (rs.length : Int), (0 : Int), ()), (b.tup, (s.h0, s.h1, s.sel, ()), (t.h0, t.h1, t.sel, ()), ((), [], ()), ())) = some ((bud, (), (), (), (), ()), (b.tup, (s.h0, s.h1, s.sel, ()), (t.h0, t.h1, t.sel, ()), ((), natsL (rs.flatMap fun r => bl (encR b r)), ()), ())) := by
  have h := nch' (step := fun x => ndt' x.1.1 x.1.2.2.2.2.2.1 x.1.2.2.2.2.2.2.1 x.1.2.2.2.2.2.2.2.1 x.2.1.1 x.2.1.2.1 x.2.1.2.2.1 x.2.1.2.2.2.1 x.2.1.2.2.2.2.1 x.2.1.2.2.2.2.2.1 x.2.1.2.2.2.2.2.2.1 x.2.1.2.2.2.2.2.2.2.1 x.2.2.1.1 x.2.2.1.2.1 x.2.2.1.2.2.1 x.2.2.2.1.1 x.2.2.2.1.2.1 x.2.2.2.1.2.2.1 x.2.2.2.2.1.2.1) rs.length
    (fun i (l : List UInt8) => ((bud, (), (), (), (), rs, (rs.length : Int), (i : Int), ()), (b.tup, (s.h0, s.h1, s.sel, ()), (t.h0, t.h1, t.sel, ()), ((), natsL l, ()), ()))) (fun i l => l ++ bl (encR b (rs.getD i (Record.mk 0 0 0 0 0)))) (fun i l => l.length ≤ 6 * i) (fun l => ((bud, (), (), (), (), ()), (b.tup, (s.h0, s.h1, s.sel, ()), (t.h0, t.h1, t.sel, ()), ((), natsL l, ()), ()))) (fun i l hi hs => by
      have he := nsf' b (rs.getD i (Record.mk 0 0 0 0 0))
      refine ⟨?_, by rw [List.length_append]; omega⟩
      show ndt' bud rs (rs.length : Int) (i : Int) b.Floors b.Debounce b.Room b.Park b.Empty b.Full b.Over b.Cars s.h0 s.h1 s.sel t.h0 t.h1 t.sel (natsL l) = _
      unfold ndt'
      simp only [decide_eq_true (show (i : Int) < (rs.length : Int) by omega), nc' (show (0 : Int) ≤ (i : Int) by omega) (show (i : Int) < (rs.length : Int) by omega), cond_true, Int.toNat_natCast, nk3' hb hc, Option.bind_some, nzu' (encR b (rs.getD i (Record.mk 0 0 0 0 0))) (l := l) (by rw [← ndf']; omega), wrap1 hi (show rs.length ≤ ni' by unfold ni'; omega)]
      rfl) (fun l _ => by
      show ndt' bud rs (rs.length : Int) (rs.length : Int) b.Floors b.Debounce b.Room b.Park b.Empty b.Full b.Over b.Cars s.h0 s.h1 s.sel t.h0 t.h1 t.sel (natsL l) = _
      unfold ndt'
      simp only [decide_eq_false (Int.lt_irrefl (rs.length : Int)), cond_false]
      rfl) rs.length 0 [] (by omega) (by simp)
  have h' := nf' h.1 (by omega)
  have e : foldN (fun i l => l ++ bl (encR b (rs.getD i (Record.mk 0 0 0 0 0)))) rs.length 0 [] = rs.flatMap fun r => bl (encR b r) := by
    rw [nel' (fun i => bl (encR b (rs.getD i (Record.mk 0 0 0 0 0)))), List.nil_append, ni1' (fun r => bl (encR b r)) (Record.mk 0 0 0 0 0) rs 0 rs.length (by omega), List.drop_zero]
  rw [e] at h'
  exact h'
end
def nc5' (b : Bldg) (s : Sto) (m : Img) (bud : Int) : Sto × Int × Int :=
  bif !(decide (s.ok b.Room)) then (Sto.no, 0, 1) else bif decide (bud < 0) then (Sto.no, 0, 1) else bif !(m.ok b) then (Sto.no, 0, 1) else
  bif ((s.erase b.Room (1 - s.sel) bud).2.2 == 0) then
    (bif (((s.erase b.Room (1 - s.sel) bud).1.write b.Room (1 - s.sel) (txt ((snapV m).flatMap encL)) (s.erase b.Room (1 - s.sel) bud).2.1).2.2 == 0) then
      ((s.erase b.Room (1 - s.sel) bud).1.write b.Room (1 - s.sel) (txt ((snapV m).flatMap encL)) (s.erase b.Room (1 - s.sel) bud).2.1).1.choose b.Room (1 - s.sel) ((s.erase b.Room (1 - s.sel) bud).1.write b.Room (1 - s.sel) (txt ((snapV m).flatMap encL)) (s.erase b.Room (1 - s.sel) bud).2.1).2.1
    else (s.erase b.Room (1 - s.sel) bud).1.write b.Room (1 - s.sel) (txt ((snapV m).flatMap encL)) (s.erase b.Room (1 - s.sel) bud).2.1)
  else s.erase b.Room (1 - s.sel) bud
theorem n0m' (room : Int) (s : Sto) (half bud : Int) (t : Sto) (hb : bud < 9223372036854775808) : (s.act room half bud t).2.1 < 9223372036854775808 := by
  unfold Sto.act
  split
  · show (0 : Int) < _; omega
  · split
    · show (0 : Int) < _; omega
    · show bud - 1 < _; omega
theorem nyo' (room : Int) (s : Sto) (half : Int) (d : ByteArray) (bud : Int) (hb : bud < 9223372036854775808) : (s.write room half d bud).2.1 < 9223372036854775808 := by
  unfold Sto.write
  split
  · show (0 : Int) < _; omega
  · split
    · show (0 : Int) < _; omega
    · split
      · show (0 : Int) < _; omega
      · show bud - (d.size : Int) < _; omega
theorem nmm' {b : Bldg} (hb : b.small) (hc : b.Cars.length ≤ 100) (s : Sto) {m : Img} (hf : m.fit) {bud : Int} (hbud : bud < 9223372036854775808) :
    ngb' b.Floors b.Debounce b.Room b.Park b.Empty b.Full b.Over b.Cars s.h0 s.h1 s.sel m.Phases m.Flags m.Leaving m.Entries bud = some (Sto.out (nc5' b s m bud)) := by
  have hmx : 100000 ≤ maxLen := by decide
  have hp := hf.p
  have he := hf.e
  unfold ngb' nc5'
  rw [ner', nfj' hb m (by omega) (by omega), nql' hb hf]
  simp only [Option.bind_some]
  by_cases hs : s.ok b.Room
  · rw [decide_eq_true (show Sto.ok b.Room ⟨s.h0, s.h1, s.sel⟩ from hs)]
    by_cases hb0 : bud < 0
    · rw [decide_eq_true hb0]; rfl
    rw [decide_eq_false hb0]
    cases hok : m.ok b with
    | false => rfl
    | true =>
      have hm := Img.ok_iff.1 hok
      have hcars := ndp' hm.code
      have hlp := hm.lp
      have hsn : snapR b m = snapV m := by unfold snapR; rw [hok]; rfl
      have hsl := not' m
      have hne : (snapV m).flatMap encL ≠ [] := fun h0 => by
        have h1 := nr3' (snapV m)
        rw [h0, hsl, List.length_nil] at h1
        omega
      have hloop := nup' hb hc bud (rs := snapV m) (by rw [hsl]; omega) s Sto.no
      rw [nps' (ng9' hm)] at hloop
      simp only [Bldg.tup, Sto.no, noB] at hloop
      have hsel : IntKind.i64.wrap (1 - s.sel) = 1 - s.sel := by
        obtain ⟨_, _, _, _, h5⟩ := hs
        exact nb' (by omega) (by omega)
      simp only [Bool.not_true, cond_false, hsn, hloop, Option.bind_some, hsel, nxd' _ _ _ _ _ _ hbud, Sto.out]
      have hb1 := n0m' b.Room s (1 - s.sel) bud (s.set (1 - s.sel) noB) hbud
      rw [show s.act b.Room (1 - s.sel) bud (s.set (1 - s.sel) noB) = s.erase b.Room (1 - s.sel) bud from rfl] at hb1
      rw [show Sto.mk s.h0 s.h1 s.sel = s from rfl]
      generalize s.erase b.Room (1 - s.sel) bud = r1 at hb1 ⊢
      cases hq : r1.2.2 == 0 with
      | false =>
        simp only [cond_false, Option.bind_some, hq]
      | true =>
        simp only [cond_true, ny3' hne, Option.bind_some, nk6' _ _ _ _ _ _ _ hb1, Sto.out]
        have hb2 := nyo' b.Room r1.1 (1 - s.sel) (txt ((snapV m).flatMap encL)) r1.2.1 hb1
        rw [show Sto.mk r1.1.h0 r1.1.h1 r1.1.sel = r1.1 from rfl]
        generalize r1.1.write b.Room (1 - s.sel) (txt ((snapV m).flatMap encL)) r1.2.1 = r2 at hb2 ⊢
        cases hq2 : r2.2.2 == 0 with
        | false => simp only [cond_false]
        | true =>
          simp only [cond_true, nvv' _ _ _ _ _ _ hb2, Option.bind_some, Sto.out]
  · rw [decide_eq_false (show ¬ Sto.ok b.Room ⟨s.h0, s.h1, s.sel⟩ from hs)]
    rfl
def fullV (b : Bldg) (m : Img) (r : Record) : Bool := r.Kind == 1 && (!(hasF (keyE r.Floor r.Dir) m.Entries) && !(roomV b m))
def putV (b : Bldg) (s : Sto) (m : Img) (r : Record) (bud : Int) : Sto × Int × Int :=
  bif decide ((6 : Int) ≤ b.Room - (s.cur.size : Int)) then s.write b.Room s.sel (txt (encL r)) bud else nc5' b s (nu' m r) bud
def nd4' (b : Bldg) (s : Sto) (m : Img) (r : Record) (bud : Int) : Sto × Img × Int × Int :=
  bif !(m.ok b && nj' b r) then (Sto.no, Img.none, 0, 1) else bif !(decide (s.ok b.Room)) then (Sto.no, Img.none, 0, 1) else bif decide (bud < 0) then (Sto.no, Img.none, 0, 1) else
  bif fullV b m r then (Sto.no, Img.none, 0, 7) else
  bif (putV b s m r bud).2.2 == 0 then ((putV b s m r bud).1, nu' m r, (putV b s m r bud).2.1, (putV b s m r bud).2.2)
  else bif (putV b s m r bud).2.2 == 8 then ((putV b s m r bud).1, m, 0, (putV b s m r bud).2.2) else (Sto.no, Img.none, 0, (putV b s m r bud).2.2)
def nmg' (r : Sto × Img × Int × Int) : (Unit × Unit × Int × Int × Unit) × ((ByteArray × ByteArray × Int × Unit) × (List Int × List Bool × List Bool × List Entry × Unit) × Unit) := (((), (), r.2.2.1, r.2.2.2, ()), ((r.1.h0, r.1.h1, r.1.sel, ()), r.2.1.tup, ()))
theorem nkb' {b : Bldg} (hb : b.small) (hc : b.Cars.length ≤ 100) (s : Sto) {m : Img} (hp : m.Phases.length ≤ 100000) (hl : m.Entries.length ≤ 10000) (r : Record) {bud : Int} (hbud : bud < 9223372036854775808) :
    ncs' b.Floors b.Debounce b.Room b.Park b.Empty b.Full b.Over b.Cars s.h0 s.h1 s.sel m.Phases m.Flags m.Leaving m.Entries r.Kind r.Floor r.Dir r.Car r.Value bud = some (nmg' (nd4' b s m r bud)) := by
  unfold ncs' nd4'
  rw [nue' hb hc m hp hl r, ner']
  unfold nlg'
  cases hq : m.ok b && nj' b r with
  | false => rfl
  | true =>
    rw [Bool.and_eq_true] at hq
    have hm := Img.ok_iff.1 hq.1
    simp only [Option.bind_some, cond_true, bne_self_eq_false, cond_false, Bool.not_true]
    by_cases hs : s.ok b.Room
    · rw [decide_eq_true (show Sto.ok b.Room ⟨s.h0, s.h1, s.sel⟩ from hs)]
      by_cases hb0 : bud < 0
      · rw [decide_eq_true hb0]; rfl
      rw [decide_eq_false hb0]
      obtain ⟨hm2, hl2⟩ := nh4' hm hq.2
      have h1 := hm.lp
      have h2 := hm.lf
      have h3 := hm.ll
      have g1 := hm2.lp
      have g2 := hm2.lf
      have g3 := hm2.ll
      have hf2 : (nu' m r).fit := ⟨by omega, by omega, by omega, by omega⟩
      have hcur : (s.cur.size : Int) ≤ b.Room := by
        obtain ⟨_, _, h3, h4, _⟩ := hs
        unfold Sto.cur
        split
        · exact h4
        · exact h3
      have hroom := nn6' hm.code
      have wr : IntKind.i64.wrap (b.Room - (s.cur.size : Int)) = b.Room - (s.cur.size : Int) := nb' (by omega) (by omega)
      have hsz : ((encR b r).size : Int) = 6 := by rw [nm1' hq.2, nbf', nbb']; rfl
      rw [npl' m hm.so (by omega)]
      have step : ∀ q : Bool, q = fullV b m r → (bif q then some (((), (), (0 : Int), (7 : Int), ()), (((ByteArray.mk (Array.mk [])), (ByteArray.mk (Array.mk [])), (0 : Int), ()), (([] : List (Int)), ([] : List (Bool)), ([] : List (Bool)), ([] : List (Entry)), ()), ())) else
          some (nmg' (bif (putV b s m r bud).2.2 == 0 then ((putV b s m r bud).1, nu' m r, (putV b s m r bud).2.1, (putV b s m r bud).2.2) else bif (putV b s m r bud).2.2 == 8 then ((putV b s m r bud).1, m, 0, (putV b s m r bud).2.2) else (Sto.no, Img.none, 0, (putV b s m r bud).2.2)))) =
        some (nmg' (bif fullV b m r then (Sto.no, Img.none, 0, 7) else (bif (putV b s m r bud).2.2 == 0 then ((putV b s m r bud).1, nu' m r, (putV b s m r bud).2.1, (putV b s m r bud).2.2) else bif (putV b s m r bud).2.2 == 8 then ((putV b s m r bud).1, m, 0, (putV b s m r bud).2.2) else (Sto.no, Img.none, 0, (putV b s m r bud).2.2)))) := by
        rintro q rfl
        cases fullV b m r <;> rfl
      simp only [Bool.not_true, cond_false, Option.bind_some]
      rw [← step _ rfl]
      have e5 : ∀ q : Bool, (bif (r.Kind == (1 : Int)) then
              bif (!(hasF (keyE r.Floor r.Dir) m.Entries)) then
                (nim' b.Floors b.Debounce b.Room b.Park b.Empty b.Full b.Over b.Cars m.Phases m.Flags m.Leaving m.Entries).bind fun y4 =>
                some ((bud, (), (), (), (), (), (), (), (!y4.1.1), ()), ((b.Floors, b.Debounce, b.Room, b.Park, b.Empty, b.Full, b.Over, b.Cars, ()), (s.h0, s.h1, s.sel, ()), (m.Phases, m.Flags, m.Leaving, m.Entries, ()), (r.Kind, r.Floor, r.Dir, r.Car, r.Value, ()), ((ByteArray.mk (Array.mk [])), (ByteArray.mk (Array.mk [])), (0 : Int), ()), (([] : List (Int)), ([] : List (Bool)), ([] : List (Bool)), ([] : List (Entry)), ()), (nu' m r).tup, ()))
              else
                some ((bud, (), (), (), (), (), (), (), false, ()), ((b.Floors, b.Debounce, b.Room, b.Park, b.Empty, b.Full, b.Over, b.Cars, ()), (s.h0, s.h1, s.sel, ()), (m.Phases, m.Flags, m.Leaving, m.Entries, ()), (r.Kind, r.Floor, r.Dir, r.Car, r.Value, ()), ((ByteArray.mk (Array.mk [])), (ByteArray.mk (Array.mk [])), (0 : Int), ()), (([] : List (Int)), ([] : List (Bool)), ([] : List (Bool)), ([] : List (Entry)), ()), (nu' m r).tup, ()))
            else
              some ((bud, (), (), (), (), (), (), (), false, ()), ((b.Floors, b.Debounce, b.Room, b.Park, b.Empty, b.Full, b.Over, b.Cars, ()), (s.h0, s.h1, s.sel, ()), (m.Phases, m.Flags, m.Leaving, m.Entries, ()), (r.Kind, r.Floor, r.Dir, r.Car, r.Value, ()), ((ByteArray.mk (Array.mk [])), (ByteArray.mk (Array.mk [])), (0 : Int), ()), (([] : List (Int)), ([] : List (Bool)), ([] : List (Bool)), ([] : List (Entry)), ()), (nu' m r).tup, ()))) = some ((bud, (), (), (), (), (), (), (), fullV b m r, ()), ((b.Floors, b.Debounce, b.Room, b.Park, b.Empty, b.Full, b.Over, b.Cars, ()), (s.h0, s.h1, s.sel, ()), (m.Phases, m.Flags, m.Leaving, m.Entries, ()), (r.Kind, r.Floor, r.Dir, r.Car, r.Value, ()), ((ByteArray.mk (Array.mk [])), (ByteArray.mk (Array.mk [])), (0 : Int), ()), (([] : List (Int)), ([] : List (Bool)), ([] : List (Bool)), ([] : List (Entry)), ()), (nu' m r).tup, ())) := fun _ => by
        rw [nvm' hb m (by omega) hp (by omega)]
        unfold fullV
        cases r.Kind == 1 <;> cases hasF (keyE r.Floor r.Dir) m.Entries <;> rfl
      have e5' := e5 true
      simp only [Img.tup] at e5' ⊢
      rw [e5']
      simp only [Option.bind_some]
      cases fullV b m r with
      | true => rfl
      | false =>
        simp only [cond_false]
        rw [nk3' hb hc, nj0']
        simp only [Option.bind_some, hsz]
        rw [show Sto.cur ⟨s.h0, s.h1, s.sel⟩ = s.cur from rfl, wr, nm1' hq.2]
        have hw : nee' b.Room s.h0 s.h1 s.sel s.sel (txt (encL r)) bud = _ := nk6' b.Room s.h0 s.h1 s.sel s.sel (txt (encL r)) bud hbud
        have hcp := nmm' hb hc s hf2 hbud
        rw [hw, hcp]
        simp only [Option.bind_some]
        have e10 : ∀ {A : Type} (f : Sto × Int × Int → A), (bif decide ((6 : Int) ≤ b.Room - (s.cur.size : Int)) then some (f (s.write b.Room s.sel (txt (encL r)) bud)) else some (f (nc5' b s (nu' m r) bud))) = some (f (putV b s m r bud)) := fun f => by
          unfold putV
          cases decide ((6 : Int) ≤ b.Room - (s.cur.size : Int)) <;> rfl
        rw [show Sto.mk s.h0 s.h1 s.sel = s from rfl]
        have e10' := e10 fun w => ((w.2.1, (), (), (), (), (), w.2.2, ()), ((w.1.h0, w.1.h1, w.1.sel, ()), (m.Phases, m.Flags, m.Leaving, m.Entries, ()), ((ByteArray.mk (Array.mk [])), (ByteArray.mk (Array.mk [])), (0 : Int), ()), (([] : List (Int)), ([] : List (Bool)), ([] : List (Bool)), ([] : List (Entry)), ()), (nu' m r).tup, ()))
        simp only [Img.tup] at e10'
        simp only [Sto.out]
        rw [e10']
        simp only [Option.bind_some]
        generalize putV b s m r bud = w
        cases w.2.2 == 0 with
        | true => rfl
        | false =>
          simp only [cond_false]
          cases w.2.2 == 8 with
          | true =>
            rw [nld' m hp (by omega) (by omega) (by omega)]
            rfl
          | false => rfl
    · rw [decide_eq_false (show ¬ Sto.ok b.Room ⟨s.h0, s.h1, s.sel⟩ from hs)]
      rfl
theorem nv3' {b : Bldg} {rs : List Record} (hv : ∀ r ∈ rs, nj' b r = true) (hl : rs.length ≤ 90000) (m0 m : Img) (hm : ImgOK b m) (hml : m.Entries.length = 0) :
    nhd' (((), (), rs, (rs.length : Int), (0 : Int), ()), (m0.tup, m.tup, ())) = some (((), (), ()), (m0.tup, (nb4' m rs).tup, ())) := by
  have hcars := ndp' hm.code
  have h := nch' (step := fun x => nd5' x.1.2.2.1 x.1.2.2.2.1 x.1.2.2.2.2.1 x.2.1.1 x.2.1.2.1 x.2.1.2.2.1 x.2.1.2.2.2.1 x.2.2.1.1 x.2.2.1.2.1 x.2.2.1.2.2.1 x.2.2.1.2.2.2.1) rs.length
    (fun i (m : Img) => (((), (), rs, (rs.length : Int), (i : Int), ()), (m0.tup, m.tup, ()))) (fun i m => nu' m (rs.getD i (Record.mk 0 0 0 0 0))) (fun i m => ImgOK b m ∧ m.Entries.length ≤ i) (fun m => (((), (), ()), (m0.tup, m.tup, ()))) (fun i m hi hs => by
      obtain ⟨hm, hle⟩ := hs
      have hr := hv _ (nh0' (Record.mk 0 0 0 0 0) hi)
      obtain ⟨a1, a2⟩ := nh4' hm hr
      refine ⟨?_, a1, by omega⟩
      show nd5' rs (rs.length : Int) (i : Int) m0.Phases m0.Flags m0.Leaving m0.Entries m.Phases m.Flags m.Leaving m.Entries = _
      unfold nd5'
      simp only [decide_eq_true (show (i : Int) < (rs.length : Int) by omega), nc' (show (0 : Int) ≤ (i : Int) by omega) (show (i : Int) < (rs.length : Int) by omega), cond_true, Int.toNat_natCast, wrap1 hi (show rs.length ≤ ni' by unfold ni'; omega)]
      rw [nnj' hm.so (by omega) (rs.getD i (Record.mk 0 0 0 0 0)) fun hk => by
        have h0 := nib' hr hk
        have h1 := hm.lp
        have h2 := hm.lf
        have h3 := hm.ll
        omega]
      rfl) (fun m _ => by
      show nd5' rs (rs.length : Int) (rs.length : Int) m0.Phases m0.Flags m0.Leaving m0.Entries m.Phases m.Flags m.Leaving m.Entries = _
      unfold nd5'
      simp only [decide_eq_false (Int.lt_irrefl (rs.length : Int)), cond_false]
      rfl) rs.length 0 m (by omega) ⟨hm, by omega⟩
  have h' := nf' h.1 (by omega)
  have e : ∀ (l : List Record) (m : Img), l.foldl nu' m = nb4' m l := fun l => by
    induction l with
    | nil => exact fun m => rfl
    | cons r t ih => exact fun m => ih (nu' m r)
  rw [njs' nu' (Record.mk 0 0 0 0 0) rs rs.length 0 m (by omega), List.drop_zero, e] at h'
  exact h'
def nb3' (b : Bldg) (s : Sto) : Img := nb4' (initV b) (readV b s.cur)
theorem nnh' {b : Bldg} (hb : b.small) (hcode : b.code = 0) (s : Sto) (hs : s.cur.size ≤ 500000) :
    nfm' b.Floors b.Debounce b.Room b.Park b.Empty b.Full b.Over b.Cars s.h0 s.h1 s.sel = some (((), ()), ((nb3' b s).tup, ())) := by
  have hcars := ndp' hcode
  obtain ⟨n, hr⟩ := nr6' hb (by omega) hcode s.cur (by omega)
  have hlen : (readV b s.cur).length ≤ 90000 := by
    have := nos' b s.cur.size (bl s.cur)
    rw [ndf'] at this
    unfold readV; omega
  have hl := nv3' (b := b) (rs := readV b s.cur) (fun r hr => nl8' b _ _ r hr) hlen Img.none (initV b) (nky' hcode) rfl
  unfold nfm'
  rw [nmb', hcode, nj0']
  simp only [Option.bind_some, beq_self_eq_true, cond_true]
  rw [show Sto.cur ⟨s.h0, s.h1, s.sel⟩ = s.cur from rfl, hr]
  simp only [Option.bind_some]
  simp only [Img.tup, Img.none] at hl ⊢
  rw [hl]
  rfl
end Go.Ovl
