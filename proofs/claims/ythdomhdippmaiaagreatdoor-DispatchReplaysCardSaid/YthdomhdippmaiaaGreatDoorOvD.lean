/- How far a car goes (layer 21): the program and the reference say the same. -/
import Derived.Test.YthdomhdippmaiaaGreatDoorOvC
import Derived.Test.YthdomhdippmaiaaGreatDoorOvA
namespace Go.Ovl
open Go Go.Ab
set_option maxRecDepth 100000
def nfr' (fl floor dir : Int) : Bool := (dir == 1 && (decide (0 ≤ floor) && decide (floor < fl - 1))) || (dir == 2 && (decide (0 < floor) && decide (floor < fl)))
theorem nln' {fl : Int} (h : 0 ≤ fl ∧ fl < 100) (floor dir : Int) : nhz' fl floor dir = some ((nfr' fl floor dir, ()), ()) := by
  have w : IntKind.i64.wrap (fl - 1) = fl - 1 := nb' (by omega) (by omega)
  unfold nhz' nfr'
  rw [w]
  cases dir == 1 <;> cases decide (0 ≤ floor) <;> cases decide (floor < fl - 1) <;> cases dir == 2 <;> cases decide (0 < floor) <;> cases decide (floor < fl) <;> rfl
theorem ng9' {fl : Int} (h : 2 ≤ fl ∧ fl ≤ 32) : ne7' fl = some ((true, ()), ()) := by
  unfold ne7'
  rw [decide_eq_true h.1, decide_eq_true h.2]; rfl
theorem refG {fl : Int} (h : 0 ≤ fl ∧ fl < 100) (from_ sweep floor dir car up down : Int) : (bif (dir == (1 : Int)) then bif (decide ((0 : Int) ≤ floor)) then bif (decide (floor < (Go.IntKind.wrap Go.IntKind.i64 (fl - (1 : Int))))) then some ((fl, from_, sweep, floor, dir, (), false, ()), ((car, up, down, ()), ())) else bif (dir == (2 : Int)) then bif (decide ((0 : Int) < floor)) then some ((fl, from_, sweep, floor, dir, (), (!(decide (floor < fl))), ()), ((car, up, down, ()), ())) else some ((fl, from_, sweep, floor, dir, (), true, ()), ((car, up, down, ()), ())) else some ((fl, from_, sweep, floor, dir, (), true, ()), ((car, up, down, ()), ())) else bif (dir == (2 : Int)) then bif (decide ((0 : Int) < floor)) then some ((fl, from_, sweep, floor, dir, (), (!(decide (floor < fl))), ()), ((car, up, down, ()), ())) else some ((fl, from_, sweep, floor, dir, (), true, ()), ((car, up, down, ()), ())) else some ((fl, from_, sweep, floor, dir, (), true, ()), ((car, up, down, ()), ())) else bif (dir == (2 : Int)) then bif (decide ((0 : Int) < floor)) then some ((fl, from_, sweep, floor, dir, (), (!(decide (floor < fl))), ()), ((car, up, down, ()), ())) else some ((fl, from_, sweep, floor, dir, (), true, ()), ((car, up, down, ()), ())) else some ((fl, from_, sweep, floor, dir, (), true, ()), ((car, up, down, ()), ()))) = some ((fl, from_, sweep, floor, dir, (), !nfr' fl floor dir, ()), ((car, up, down, ()), ())) := by
  have w : IntKind.i64.wrap (fl - 1) = fl - 1 := nb' (by omega) (by omega)
  unfold nfr'
  rw [w]
  cases dir == 1 <;> cases decide (0 ≤ floor) <;> cases decide (floor < fl - 1) <;> cases dir == 2 <;> cases decide (0 < floor) <;> cases decide (floor < fl) <;> rfl
def pathV (sw di fr fo lo hi : Int) : Int :=
  bif sw == 0 then (bif decide (fr - fo < fo - fr) then fo - fr else fr - fo)
  else bif sw == 1 then (bif di == 1 then (bif decide (fr ≤ fo) then fo - fr else hi - fr + hi - lo + fo - lo) else hi - fr + hi - fo)
  else (bif di == 2 then (bif decide (fo ≤ fr) then fr - fo else fr - lo + hi - lo + hi - fo) else fr - lo + fo - lo)
theorem n5o' {fl : Nat} (hfl : fl ≤ 8) {car up down : Int} {a u d : Nat} (c : Cnt fl car up down a u d) {fr fo : Nat} (hr : fr < fl) (ho : fo < fl) :
    ∃ S : Nat, S < 256 ∧ S ≠ 0 ∧ (∀ i, S.testBit i = (decide (i < fl) && (a.testBit i || (u.testBit i || d.testBit i)) || (decide (i = fr) || decide (i = fo)))) ∧
      vb ((((bv a ||| bv u) ||| bv d) ||| BitVec.twoPow 32 fr) ||| BitVec.twoPow 32 fo) = (S : Int) := by
  have hb : ∀ (x : Nat), x < 256 → ∀ i, (bv (x : Int)).getLsbD i = x.testBit i := fun x hx i => by
    show bitF (x : Int) i = _
    rw [n2n' ⟨by omega, by omega⟩]; simp
  have hS : ∀ i, ((((bv a ||| bv u) ||| bv d) ||| BitVec.twoPow 32 fr) ||| BitVec.twoPow 32 fo).getLsbD i = (decide (i < fl) && (a.testBit i || (u.testBit i || d.testBit i)) || (decide (i = fr) || decide (i = fo))) := by
    intro i
    simp only [BitVec.getLsbD_or, hb a c.la, hb u c.lu, hb d c.ld, BitVec.getLsbD_twoPow]
    have e1 : (decide (fr < 32) && decide (fr = i)) = decide (i = fr) := by rw [decide_eq_true (show fr < 32 by omega), Bool.true_and]; exact decide_eq_decide.2 eq_comm
    have e2 : (decide (fo < 32) && decide (fo = i)) = decide (i = fo) := by rw [decide_eq_true (show fo < 32 by omega), Bool.true_and]; exact decide_eq_decide.2 eq_comm
    rw [e1, e2]
    by_cases hi : i < fl
    · rw [decide_eq_true hi, Bool.true_and]
      cases a.testBit i <;> cases u.testBit i <;> cases d.testBit i <;> cases decide (i = fr) <;> cases decide (i = fo) <;> rfl
    · obtain ⟨q1, q2, q3⟩ := c.hi i (by omega)
      rw [q1, q2, q3, decide_eq_false hi]; rfl
  refine ⟨((((bv a ||| bv u) ||| bv d) ||| BitVec.twoPow 32 fr) ||| BitVec.twoPow 32 fo).toNat, nwr' hfl fun i _ h => ?_, fun h0 => ?_, hS, rfl⟩
  · rw [hS] at h
    simp only [Bool.or_eq_true, Bool.and_eq_true, decide_eq_true_eq] at h
    rcases h with ⟨h, _⟩ | rfl | rfl
    · exact h
    · exact hr
    · exact ho
  · have := hS fr
    rw [BitVec.getLsbD, h0] at this
    simp at this
theorem nzh' {fl : Nat} (h2 : 2 ≤ fl) (hfl : fl ≤ 8) (car up down from_ sweep floor dir : Int) (h : ¬ (0 ≤ from_ ∧ from_ < fl ∧ 0 ≤ sweep ∧ sweep ≤ 2 ∧ nfr' fl floor dir = true)) :
    ndl' (fl : Int) from_ sweep car up down floor dir = some ((-1, ()), ()) ∧ nd7' (fl : Int) from_ sweep car up down floor dir = some ((-1, ()), ()) := by
  unfold ndl' nd7'
  rw [ng9' ⟨by omega, by omega⟩, nln' ⟨by omega, by omega⟩]
  simp only [Option.bind_some, Bool.not_true, cond_false]
  rw [decide_eq_false (show ¬ ((fl : Int) < 2) by omega), decide_eq_false (show ¬ ((32 : Int) < fl) by omega)]
  simp only [cond_false]
  by_cases g1 : from_ < 0
  · rw [decide_eq_true g1]; exact ⟨rfl, rfl⟩
  rw [decide_eq_false g1]
  simp only [cond_false]
  by_cases g2 : (fl : Int) ≤ from_
  · rw [decide_eq_true g2]; exact ⟨rfl, rfl⟩
  rw [decide_eq_false g2]
  simp only [cond_false]
  by_cases g3 : sweep < 0
  · rw [decide_eq_true g3]; exact ⟨rfl, rfl⟩
  rw [decide_eq_false g3]
  simp only [cond_false]
  by_cases g4 : 2 < sweep
  · rw [decide_eq_true g4]; exact ⟨rfl, rfl⟩
  rw [decide_eq_false g4]
  simp only [cond_false]
  have hc : nfr' fl floor dir = false := by
    cases hq : nfr' fl floor dir with
    | false => rfl
    | true => exact absurd ⟨by omega, by omega, by omega, by omega, hq⟩ h
  rw [refG ⟨by omega, by omega⟩, hc]
  exact ⟨rfl, rfl⟩
end Go.Ovl
namespace Go.Ovl
open Go Go.Ab
set_option maxRecDepth 100000
theorem nk4' {f g : Int} (h : g ≤ f) : distF f g = f - g := by
  unfold distF
  rw [decide_eq_false (by omega)]; rfl
theorem nk7' {f g : Int} (h : f ≤ g) : distF f g = g - f := by
  unfold distF
  by_cases e : f - g < g - f
  · rw [decide_eq_true e]; rfl
  · rw [decide_eq_false e]; simp only [cond_false]; omega
theorem w_nil {fr fo : Nat} (h1 : fr < 100) (h2 : fo < 100) : nr' [] (fr : Int) (fo : Int) = some ((distF fo fr, ()), (((fr : Int), ()), ((fo : Int), ()), ())) := by
  rw [nkg' (l := []) (by simp) (by simp) (by omega) (by omega)]
  simp only [List.nil_append, wayF, Int.zero_add]
theorem w_one {a fr fo : Nat} (h : a < 100) (h1 : fr < 100) (h2 : fo < 100) : nr' [(a : Int)] (fr : Int) (fo : Int) = some ((distF a fr + distF fo a, ()), (((fr : Int), ()), ((fo : Int), ()), ())) := by
  rw [nkg' (l := [(a : Int)]) (by simp; omega) (by simp) (by omega) (by omega)]
  simp only [List.cons_append, List.nil_append, wayF, Int.zero_add]
theorem w_two {a b fr fo : Nat} (h : a < 100) (h' : b < 100) (h1 : fr < 100) (h2 : fo < 100) : nr' [(a : Int), (b : Int)] (fr : Int) (fo : Int) = some ((distF a fr + distF b a + distF fo b, ()), (((fr : Int), ()), ((fo : Int), ()), ())) := by
  rw [nkg' (l := [(a : Int), (b : Int)]) (by simp; omega) (by simp) (by omega) (by omega)]
  simp only [List.cons_append, List.nil_append, wayF, Int.zero_add]
theorem n2g' {lo hi fr fo : Nat} (b1 : lo ≤ fr) (b2 : lo ≤ fo) (b3 : fr ≤ hi) (b4 : fo ≤ hi) (b5 : hi < 8) {sweep dir : Int} (hsw : sweep = 0 ∨ sweep = 1 ∨ sweep = 2) (hdir : dir = 1 ∨ dir = 2) :
    (
      Option.bind (bif (sweep == (1 : Int)) then
            bif (decide ((fr : Int) ≤ (fo : Int))) then
              some ((sweep, dir, (lo : Int), (hi : Int), (), true, ()), (((fr : Int), ()), ((fo : Int), ()), ()))
            else
              bif (sweep == (2 : Int)) then
                some ((sweep, dir, (lo : Int), (hi : Int), (), (decide ((fo : Int) ≤ (fr : Int))), ()), (((fr : Int), ()), ((fo : Int), ()), ()))
              else
                some ((sweep, dir, (lo : Int), (hi : Int), (), false, ()), (((fr : Int), ()), ((fo : Int), ()), ()))
          else
            bif (sweep == (2 : Int)) then
              some ((sweep, dir, (lo : Int), (hi : Int), (), (decide ((fo : Int) ≤ (fr : Int))), ()), (((fr : Int), ()), ((fo : Int), ()), ()))
            else
              some ((sweep, dir, (lo : Int), (hi : Int), (), false, ()), (((fr : Int), ()), ((fo : Int), ()), ()))) fun y6 =>
      Option.bind (bif (y6.1.1 == (0 : Int)) then
            some ((y6.1.1, y6.1.2.1, y6.1.2.2.1, y6.1.2.2.2.1, (), true, ()), ((y6.2.1.1, ()), (y6.2.2.1.1, ()), ()))
          else
            bif (y6.1.1 == y6.1.2.1) then
              some ((y6.1.1, y6.1.2.1, y6.1.2.2.1, y6.1.2.2.2.1, (), y6.1.2.2.2.2.2.1, ()), ((y6.2.1.1, ()), (y6.2.2.1.1, ()), ()))
            else
              some ((y6.1.1, y6.1.2.1, y6.1.2.2.1, y6.1.2.2.2.1, (), false, ()), ((y6.2.1.1, ()), (y6.2.2.1.1, ()), ()))) fun y7 =>
      bif y7.1.2.2.2.2.2.1 then
        (nr' [] y7.2.1.1 y7.2.2.1.1).bind fun y8 =>
        some ((y8.1.1, ()), ())
      else
        Option.bind (bif (y7.1.1 != y7.1.2.1) then
              some ((y7.1.1, y7.1.2.1, y7.1.2.2.1, y7.1.2.2.2.1, (), (y7.1.1 == (1 : Int)), ()), ((y7.2.1.1, ()), (y7.2.2.1.1, ()), ()))
            else
              some ((y7.1.1, y7.1.2.1, y7.1.2.2.1, y7.1.2.2.2.1, (), false, ()), ((y7.2.1.1, ()), (y7.2.2.1.1, ()), ()))) fun y9 =>
        bif y9.1.2.2.2.2.2.1 then
          (nr' [y9.1.2.2.2.1] y9.2.1.1 y9.2.2.1.1).bind fun y10 =>
          some ((y10.1.1, ()), ())
        else
          bif (y9.1.1 != y9.1.2.1) then
            (nr' [y9.1.2.2.1] y9.2.1.1 y9.2.2.1.1).bind fun y11 =>
            some ((y11.1.1, ()), ())
          else
            bif (y9.1.1 == (1 : Int)) then
              (nr' [y9.1.2.2.2.1, y9.1.2.2.1] y9.2.1.1 y9.2.2.1.1).bind fun y12 =>
              some ((y12.1.1, ()), ())
            else
              (nr' [y9.1.2.2.1, y9.1.2.2.2.1] y9.2.1.1 y9.2.2.1.1).bind fun y13 =>
              some ((y13.1.1, ()), ())) = some ((pathV sweep dir fr fo lo hi, ()), ()) := by
  have fin : ∀ {x y : Int}, x = y → (some ((x, ()), ()) : Option ((Int × Unit) × Unit)) = some ((y, ()), ()) := fun h => by rw [h]
  have e1 : distF (fo : Int) fr = bif decide ((fr : Int) - fo < fo - fr) then (fo : Int) - fr else fr - fo := by
    unfold distF
    by_cases g : (fo : Int) - fr < fr - fo
    · rw [decide_eq_true g, decide_eq_false (by omega)]; rfl
    · rw [decide_eq_false g]; by_cases g' : (fr : Int) - fo < fo - fr
      · rw [decide_eq_true g']; rfl
      · rw [decide_eq_false g']; simp only [cond_false]; omega
  have W0 := w_nil (fr := fr) (fo := fo) (by omega) (by omega)
  have W1 := w_one (a := hi) (fr := fr) (fo := fo) (by omega) (by omega) (by omega)
  have W2 := w_one (a := lo) (fr := fr) (fo := fo) (by omega) (by omega) (by omega)
  have W3 := w_two (a := hi) (b := lo) (fr := fr) (fo := fo) (by omega) (by omega) (by omega) (by omega)
  have W4 := w_two (a := lo) (b := hi) (fr := fr) (fo := fo) (by omega) (by omega) (by omega) (by omega)
  rw [nk4' (f := hi) (g := fr) (by omega), nk7' (f := fo) (g := hi) (by omega)] at W1
  rw [nk7' (f := lo) (g := fr) (by omega), nk4' (f := fo) (g := lo) (by omega)] at W2
  rw [nk4' (f := hi) (g := fr) (by omega), nk7' (f := lo) (g := hi) (by omega), nk4' (f := fo) (g := lo) (by omega)] at W3
  rw [nk7' (f := lo) (g := fr) (by omega), nk4' (f := hi) (g := lo) (by omega), nk7' (f := fo) (g := hi) (by omega)] at W4
  rcases hsw with rfl | rfl | rfl
  · rw [show ((0 : Int) == 1) = false from rfl, show ((0 : Int) == 2) = false from rfl]
    simp only [Option.bind_some, cond_true, cond_false, beq_self_eq_true, W0, pathV, e1]
  · rw [show ((1 : Int) == 1) = true from rfl, show ((1 : Int) == 2) = false from rfl]
    rcases hdir with rfl | rfl
    · by_cases g : (fr : Int) ≤ fo
      · simp only [Option.bind_some, cond_true, cond_false, decide_eq_true g, show ((1 : Int) == 0) = false from rfl, show ((1 : Int) == 1) = true from rfl, W0, pathV]
        rw [nk4' g]
      · simp only [Option.bind_some, cond_true, cond_false, decide_eq_false g, show ((1 : Int) == 0) = false from rfl, show ((1 : Int) == 1) = true from rfl, bne, Bool.not_true, W3, pathV]
        refine fin ?_; omega
    · cases hg : decide ((fr : Int) ≤ fo) <;>
        (simp only [Option.bind_some, cond_true, cond_false, show ((1 : Int) == 0) = false from rfl, show ((1 : Int) == 1) = true from rfl, show ((1 : Int) == 2) = false from rfl, show ((2 : Int) == 1) = false from rfl, bne, Bool.not_false, W1, pathV]; refine fin ?_; omega)
  · rw [show ((2 : Int) == 1) = false from rfl, show ((2 : Int) == 2) = true from rfl]
    rcases hdir with rfl | rfl
    · cases hg : decide ((fo : Int) ≤ fr) <;>
        (simp only [Option.bind_some, cond_true, cond_false, show ((2 : Int) == 0) = false from rfl, show ((2 : Int) == 1) = false from rfl, show ((1 : Int) == 2) = false from rfl, bne, Bool.not_false, W2, pathV]; refine fin ?_; omega)
    · by_cases g : (fo : Int) ≤ fr
      · simp only [Option.bind_some, cond_true, cond_false, decide_eq_true g, show ((2 : Int) == 0) = false from rfl, show ((2 : Int) == 1) = false from rfl, show ((2 : Int) == 2) = true from rfl, W0, pathV]
        rw [nk7' g]
      · simp only [Option.bind_some, cond_true, cond_false, decide_eq_false g, show ((2 : Int) == 0) = false from rfl, show ((2 : Int) == 1) = false from rfl, show ((2 : Int) == 2) = true from rfl, bne, Bool.not_true, W4, pathV]
        refine fin ?_; omega
end Go.Ovl
namespace Go.Ovl
open Go Go.Ab
set_option maxRecDepth 100000
set_option maxHeartbeats 1000000 in
theorem n1m' {fl : Nat} (h2 : 2 ≤ fl) (hfl : fl ≤ 8) {car up down : Int} (hc : u32r car) (hu : u32r up) (hd : u32r down) {fr fo : Nat} (hr : fr < fl) (ho : fo < fl) {sweep dir : Int} (hs : 0 ≤ sweep ∧ sweep ≤ 2) (hcall : nfr' fl fo dir = true) :
    ∃ lo hi : Nat, lo ≤ fr ∧ lo ≤ fo ∧ fr ≤ hi ∧ fo ≤ hi ∧ hi < 8 ∧ ndl' (fl : Int) fr sweep car up down fo dir = some ((pathV sweep dir fr fo lo hi, ()), ()) ∧ nd7' (fl : Int) fr sweep car up down fo dir = some ((pathV sweep dir fr fo lo hi, ()), ()) := by
  obtain ⟨a, u, d, hcnt, c⟩ := nkk' hfl car up down
  obtain ⟨S, s1, s2, s3, s4⟩ := n5o' hfl c hr ho
  obtain ⟨lo, t1, t2, t3, t4⟩ := tz_eq s1 s2
  obtain ⟨hi, l1, l2, l3, l4⟩ := n5r' s1 s2
  have hl := n4s' (p := fun i => a.testBit i || (u.testBit i || d.testBit i)) hr ho s3 l3 l4 t3 t4
  have hlo : ∀ i, S.testBit i = true → lo ≤ i := fun i h => by
    rcases Nat.lt_or_ge i lo with h' | h'
    · rw [t4 i h'] at h; cases h
    · exact h'
  have hhi : ∀ i, S.testBit i = true → i ≤ hi := fun i h => by
    rcases Nat.lt_or_ge hi i with h' | h'
    · rw [l4 i h'] at h; cases h
    · exact h'
  have mfr : S.testBit fr = true := by rw [s3]; simp
  have mfo : S.testBit fo = true := by rw [s3]; simp
  have b1 := hlo _ mfr
  have b2 := hlo _ mfo
  have b3 := hhi _ mfr
  have b4 := hhi _ mfo
  have hdir : dir = 1 ∨ dir = 2 := by
    unfold nfr' at hcall
    simp only [Bool.or_eq_true, Bool.and_eq_true, beq_iff_eq] at hcall
    omega
  have hsw : sweep = 0 ∨ sweep = 1 ∨ sweep = 2 := by omega
  have x0 : IntKind.i64.wrap (((hi : Nat) : Int) - ((fr : Nat) : Int)) = ((hi : Nat) : Int) - ((fr : Nat) : Int) := nb' (by omega) (by omega)
  have x1 : IntKind.i64.wrap (((hi : Nat) : Int) - ((fr : Nat) : Int) + ((hi : Nat) : Int)) = ((hi : Nat) : Int) - ((fr : Nat) : Int) + ((hi : Nat) : Int) := nb' (by omega) (by omega)
  have x2 : IntKind.i64.wrap (((hi : Nat) : Int) - ((fr : Nat) : Int) + ((hi : Nat) : Int) - ((fo : Nat) : Int)) = ((hi : Nat) : Int) - ((fr : Nat) : Int) + ((hi : Nat) : Int) - ((fo : Nat) : Int) := nb' (by omega) (by omega)
  have x3 : IntKind.i64.wrap (((hi : Nat) : Int) - ((fr : Nat) : Int) + ((hi : Nat) : Int) - ((lo : Nat) : Int)) = ((hi : Nat) : Int) - ((fr : Nat) : Int) + ((hi : Nat) : Int) - ((lo : Nat) : Int) := nb' (by omega) (by omega)
  have x4 : IntKind.i64.wrap (((hi : Nat) : Int) - ((fr : Nat) : Int) + ((hi : Nat) : Int) - ((lo : Nat) : Int) + ((fo : Nat) : Int)) = ((hi : Nat) : Int) - ((fr : Nat) : Int) + ((hi : Nat) : Int) - ((lo : Nat) : Int) + ((fo : Nat) : Int) := nb' (by omega) (by omega)
  have x5 : IntKind.i64.wrap (((hi : Nat) : Int) - ((fr : Nat) : Int) + ((hi : Nat) : Int) - ((lo : Nat) : Int) + ((fo : Nat) : Int) - ((lo : Nat) : Int)) = ((hi : Nat) : Int) - ((fr : Nat) : Int) + ((hi : Nat) : Int) - ((lo : Nat) : Int) + ((fo : Nat) : Int) - ((lo : Nat) : Int) := nb' (by omega) (by omega)
  have x6 : IntKind.i64.wrap (((fr : Nat) : Int) - ((lo : Nat) : Int)) = ((fr : Nat) : Int) - ((lo : Nat) : Int) := nb' (by omega) (by omega)
  have x7 : IntKind.i64.wrap (((fr : Nat) : Int) - ((lo : Nat) : Int) + ((fo : Nat) : Int)) = ((fr : Nat) : Int) - ((lo : Nat) : Int) + ((fo : Nat) : Int) := nb' (by omega) (by omega)
  have x8 : IntKind.i64.wrap (((fr : Nat) : Int) - ((lo : Nat) : Int) + ((fo : Nat) : Int) - ((lo : Nat) : Int)) = ((fr : Nat) : Int) - ((lo : Nat) : Int) + ((fo : Nat) : Int) - ((lo : Nat) : Int) := nb' (by omega) (by omega)
  have x9 : IntKind.i64.wrap (((fr : Nat) : Int) - ((lo : Nat) : Int) + ((hi : Nat) : Int)) = ((fr : Nat) : Int) - ((lo : Nat) : Int) + ((hi : Nat) : Int) := nb' (by omega) (by omega)
  have x10 : IntKind.i64.wrap (((fr : Nat) : Int) - ((lo : Nat) : Int) + ((hi : Nat) : Int) - ((lo : Nat) : Int)) = ((fr : Nat) : Int) - ((lo : Nat) : Int) + ((hi : Nat) : Int) - ((lo : Nat) : Int) := nb' (by omega) (by omega)
  have x11 : IntKind.i64.wrap (((fr : Nat) : Int) - ((lo : Nat) : Int) + ((hi : Nat) : Int) - ((lo : Nat) : Int) + ((hi : Nat) : Int)) = ((fr : Nat) : Int) - ((lo : Nat) : Int) + ((hi : Nat) : Int) - ((lo : Nat) : Int) + ((hi : Nat) : Int) := nb' (by omega) (by omega)
  have x12 : IntKind.i64.wrap (((fr : Nat) : Int) - ((lo : Nat) : Int) + ((hi : Nat) : Int) - ((lo : Nat) : Int) + ((hi : Nat) : Int) - ((fo : Nat) : Int)) = ((fr : Nat) : Int) - ((lo : Nat) : Int) + ((hi : Nat) : Int) - ((lo : Nat) : Int) + ((hi : Nat) : Int) - ((fo : Nat) : Int) := nb' (by omega) (by omega)
  have x13 : IntKind.i64.wrap (((fr : Nat) : Int) - ((fo : Nat) : Int)) = ((fr : Nat) : Int) - ((fo : Nat) : Int) := nb' (by omega) (by omega)
  have x14 : IntKind.i64.wrap (((fo : Nat) : Int) - ((fr : Nat) : Int)) = ((fo : Nat) : Int) - ((fr : Nat) : Int) := nb' (by omega) (by omega)
  refine ⟨lo, hi, b1, b2, b3, b4, l2, ?_, ?_⟩
  · unfold ndl'
    rw [ng9' ⟨by omega, by omega⟩, nln' ⟨by omega, by omega⟩, hcall, hcnt]
    rw [decide_eq_false (show ¬ ((fr : Int) < 0) by omega), decide_eq_false (show ¬ ((fl : Int) ≤ fr) by omega), decide_eq_false (show ¬ (sweep < 0) by omega), decide_eq_false (show ¬ (2 < sweep) by omega)]
    have tn1 : Int.toNat (fr : Int) = fr := by omega
    have tn2 : Int.toNat (fo : Int) = fo := by omega
    have p1 : bv (IntKind.u32.wrap (1 * 2 ^ min fr (IntKind.bits .u32))) = BitVec.twoPow 32 fr := by rw [nux', if_pos (by omega)]
    have p2 : bv (IntKind.u32.wrap (1 * 2 ^ min fo (IntKind.bits .u32))) = BitVec.twoPow 32 fo := by rw [nux', if_pos (by omega)]
    have z1 : decide ((0 : Int) ≤ (fr : Int)) = true := by simp
    have z2 : decide ((0 : Int) ≤ (fo : Int)) = true := by simp
    have lw : IntKind.i64.wrap (((hi + 1 : Nat) : Int) - 1) = (hi : Int) := by rw [nb' (by omega) (by omega)]; omega
    simp only [Option.bind_some, Bool.not_true, cond_false, cond_true, z1, z2, tn1, tn2, w_or, bv_vb, p1, p2, s4, t1, l1, lw]
    exact n2g' b1 b2 b3 b4 l2 hsw hdir
  · unfold nd7'
    rw [decide_eq_false (show ¬ ((fl : Int) < 2) by omega), decide_eq_false (show ¬ ((32 : Int) < fl) by omega), decide_eq_false (show ¬ ((fr : Int) < 0) by omega), decide_eq_false (show ¬ ((fl : Int) ≤ fr) by omega), decide_eq_false (show ¬ (sweep < 0) by omega), decide_eq_false (show ¬ (2 < sweep) by omega), refG ⟨by omega, by omega⟩, hcall]
    simp only [cond_false, Option.bind_some, Bool.not_true]
    have hloop := nua' h2 hfl hc hu hd c fr sweep fo dir (bif decide ((fr : Int) < fo) then (fo : Int) else fr, bif decide ((fo : Int) < fr) then (fo : Int) else fr)
    rw [hl] at hloop
    simp only at hloop
    rw [hloop]
    rcases hsw with rfl | rfl | rfl
    · unfold pathV
      simp only [Option.bind_some, beq_self_eq_true, cond_true, x13, x14]
    · rcases hdir with rfl | rfl
      · by_cases g : (fr : Int) ≤ fo
        · unfold pathV
          simp only [Option.bind_some, beq_self_eq_true, cond_true, decide_eq_true g, show ((1 : Int) == 0) = false from rfl, cond_false, x0, x1, x2, x3, x4, x5, x13, x14]
        · unfold pathV
          simp only [Option.bind_some, beq_self_eq_true, cond_true, decide_eq_false g, show ((1 : Int) == 0) = false from rfl, show ((1 : Int) == 2) = false from rfl, cond_false, x0, x1, x2, x3, x4, x5, x6, x7, x8, x9, x10, x11, x12, x13, x14]
      · unfold pathV
        simp only [Option.bind_some, beq_self_eq_true, cond_true, show ((1 : Int) == 0) = false from rfl, show ((2 : Int) == 1) = false from rfl, cond_false, x0, x1, x2, x3, x4, x5, x6, x7, x8, x9, x10, x11, x12, x13, x14]
    · rcases hdir with rfl | rfl
      · unfold pathV
        simp only [Option.bind_some, beq_self_eq_true, cond_true, show ((2 : Int) == 0) = false from rfl, show ((2 : Int) == 1) = false from rfl, show ((1 : Int) == 2) = false from rfl, cond_false, x0, x1, x2, x3, x4, x5, x6, x7, x8, x9, x10, x11, x12, x13, x14]
      · by_cases g : (fo : Int) ≤ fr
        · unfold pathV
          simp only [Option.bind_some, beq_self_eq_true, cond_true, decide_eq_true g, show ((2 : Int) == 0) = false from rfl, show ((2 : Int) == 1) = false from rfl, cond_false, x0, x1, x2, x3, x4, x5, x6, x7, x8, x9, x10, x11, x12, x13, x14]
        · unfold pathV
          simp only [Option.bind_some, beq_self_eq_true, cond_true, decide_eq_false g, show ((2 : Int) == 0) = false from rfl, show ((2 : Int) == 1) = false from rfl, cond_false, x0, x1, x2, x3, x4, x5, x6, x7, x8, x9, x10, x11, x12, x13, x14]
end Go.Ovl
namespace Go.Ovl
open Go Go.Ab
set_option maxRecDepth 100000
theorem n3y' {fl : Nat} (h2 : 2 ≤ fl) (hfl : fl ≤ 8) {car up down : Int} (hc : u32r car) (hu : u32r up) (hd : u32r down) (from_ sweep floor dir : Int) :
    ∃ n : Int, ndl' (fl : Int) from_ sweep car up down floor dir = some ((n, ()), ()) ∧ nd7' (fl : Int) from_ sweep car up down floor dir = some ((n, ()), ()) ∧ (from_ < 0 → n = -1) := by
  by_cases h : 0 ≤ from_ ∧ from_ < fl ∧ 0 ≤ sweep ∧ sweep ≤ 2 ∧ nfr' fl floor dir = true
  · obtain ⟨g1, g2, g3, g4, g5⟩ := h
    have hcall := g5
    unfold nfr' at g5
    simp only [Bool.or_eq_true, Bool.and_eq_true, decide_eq_true_eq, beq_iff_eq] at g5
    have e1 : (from_.toNat : Int) = from_ := by omega
    have e2 : (floor.toNat : Int) = floor := by omega
    rw [← e2] at hcall
    obtain ⟨lo, hi, b1, b2, b3, b4, b5, q1, q2⟩ := n1m' h2 hfl hc hu hd (fr := from_.toNat) (fo := floor.toNat) (by omega) (by omega) ⟨g3, g4⟩ hcall
    rw [e1, e2] at q1 q2
    exact ⟨_, q1, q2, by omega⟩
  · obtain ⟨q1, q2⟩ := nzh' h2 hfl car up down from_ sweep floor dir h
    exact ⟨-1, q1, q2, fun _ => rfl⟩
def sB (s : Nat) : Nat → Nat → Nat
  | 0, _ => 0
  | m + 1, i => (s.testBit i).toNat + sB s m (i + 1)
theorem sB_le (s : Nat) : ∀ m i, sB s m i ≤ m
  | 0, _ => Nat.le_refl _
  | m + 1, i => by
    have := sB_le s m (i + 1)
    have h : (s.testBit i).toNat ≤ 1 := by cases s.testBit i <;> decide
    show _ + _ ≤ _
    omega
theorem n4x' : ((List.range 256).all fun s => (List.range 9).all fun fl => Nat.beq (sB s fl 0) (ones8 s) || (List.range 8).any fun i => Nat.ble fl i && s.testBit i) = true := by kernel_rfl
theorem nsu' {s fl : Nat} (h : s < 256) (hfl : fl ≤ 8) (hz : ∀ i, fl ≤ i → s.testBit i = false) : sB s fl 0 = ones8 s := by
  have := List.all_eq_true.1 (List.all_eq_true.1 n4x' s (List.mem_range.2 h)) fl (List.mem_range.2 (by omega))
  rw [Bool.or_eq_true] at this
  rcases this with h | h
  · exact Nat.eq_of_beq_eq_true h
  · obtain ⟨i, _, hi⟩ := List.any_eq_true.1 h
    rw [Bool.and_eq_true] at hi
    rw [hz i (Nat.le_of_ble_eq_true hi.1)] at hi
    cases hi.2
theorem nwg' {fl : Nat} (h2 : 2 ≤ fl) (hfl : fl ≤ 8) {car up down : Int} (hc : u32r car) (hu : u32r up) (hd : u32r down) {a u d : Nat} (c : Cnt fl car up down a u d) {f : Nat} (hf : f < fl) {n : Nat} (hn : n < 100) :
    nhx' (((fl : Int), (), (n : Int), (f : Int), (0 : Int), ()), ((car, up, down, ()), ())) = some (((fl : Int), (), (((n + (a.testBit f).toNat + (u.testBit f).toNat + (d.testBit f).toNat : Nat)) : Int), (f : Int), ()), ((car, up, down, ()), ())) := by
  obtain ⟨k0, k1, k2⟩ := npt' h2 hfl hc hu hd c hf
  have w : ∀ k : Nat, k < 200 → IntKind.i64.wrap ((k : Int) + 1) = ((k + 1 : Nat) : Int) := fun k hk => by rw [nb' (by omega) (by omega)]; omega
  have st : ∀ (p : Bool) (k : Nat), k < 200 → (bif p then IntKind.i64.wrap ((k : Int) + 1) else (k : Int)) = ((k + p.toNat : Nat) : Int) := fun p k hk => by
    cases p
    · rfl
    · exact w k hk
  have r : ∀ (k : Nat) (p : Bool) (j : Int), j < 3 → ∀ j', IntKind.i64.wrap (j + 1) = j' → k < 200 → ndz' fl car up down f j = some ((p, ()), ()) → ngg' fl k f j car up down = some (.inl (((fl : Int), (), ((k + p.toNat : Nat) : Int), (f : Int), j', ()), ((car, up, down, ()), ()))) := fun k p j hj j' hw hk h => by
    unfold ngg'
    rw [decide_eq_true hj, h, hw, ← st p k hk]
    cases p <;> rfl
  refine ns' (f := 4) ?_ (by omega)
  refine (ny' (r n _ 0 (by omega) 1 (by decide) (by omega) k0)).trans ?_
  have a1 : (a.testBit f).toNat ≤ 1 := by cases a.testBit f <;> decide
  have a2 : (u.testBit f).toNat ≤ 1 := by cases u.testBit f <;> decide
  refine (ny' (r _ _ 1 (by omega) 2 (by decide) (by omega) k1)).trans ?_
  refine (ny' (r _ _ 2 (by omega) 3 (by decide) (by omega) k2)).trans ?_
  refine nj' ?_
  show ngg' (fl : Int) _ (f : Int) 3 car up down = _
  unfold ngg'
  rfl
theorem nmr' {fl : Nat} (h2 : 2 ≤ fl) (hfl : fl ≤ 8) {car up down : Int} (hc : u32r car) (hu : u32r up) (hd : u32r down) {a u d : Nat} (c : Cnt fl car up down a u d) :
    ∀ (m i n : Nat), i + m = fl → n + 3 * m < 100 → iter (fun x => new' x.1.1 x.1.2.2.1 x.1.2.2.2.1 x.2.1.1 x.2.1.2.1 x.2.1.2.2.1) (m + 1) (((fl : Int), (), (n : Int), (i : Int), ()), ((car, up, down, ()), ())) = some ((((n + sB a m i + sB u m i + sB d m i : Nat) : Int), ()), ())
  | 0, i, n, hi, hn => by
    refine nj' ?_
    show new' (fl : Int) n i car up down = _
    unfold new'
    have e : decide ((i : Int) < (fl : Int)) = false := by simp; omega
    rw [e]; rfl
  | m + 1, i, n, hi, hn => by
    have e : decide ((i : Int) < (fl : Int)) = true := by simp; omega
    have w : IntKind.i64.wrap ((i : Int) + 1) = ((i + 1 : Nat) : Int) := by rw [nb' (by omega) (by omega)]; omega
    have a1 : (a.testBit i).toNat ≤ 1 := by cases a.testBit i <;> decide
    have a2 : (u.testBit i).toNat ≤ 1 := by cases u.testBit i <;> decide
    have a3 : (d.testBit i).toNat ≤ 1 := by cases d.testBit i <;> decide
    refine (ny' (x' := (((fl : Int), (), ((n + (a.testBit i).toNat + (u.testBit i).toNat + (d.testBit i).toNat : Nat) : Int), ((i + 1 : Nat) : Int), ()), ((car, up, down, ()), ()))) ?_).trans ?_
    · show new' (fl : Int) n i car up down = _
      unfold new'
      rw [e, nwg' h2 hfl hc hu hd c (show i < fl by omega) (show n < 100 by omega)]
      simp only [cond_true, Option.bind_some, w]
    · rw [nmr' h2 hfl hc hu hd c m (i + 1) _ (by omega) (by omega)]
      have : n + (a.testBit i).toNat + (u.testBit i).toNat + (d.testBit i).toNat + sB a m (i + 1) + sB u m (i + 1) + sB d m (i + 1) = n + sB a (m + 1) i + sB u (m + 1) i + sB d (m + 1) i := by
        simp only [sB]; omega
      rw [this]
theorem n3k' {fl : Nat} (h2 : 2 ≤ fl) (hfl : fl ≤ 8) {car up down : Int} (hc : u32r car) (hu : u32r up) (hd : u32r down) :
    ∃ n : Nat, n ≤ 24 ∧ nfp' (fl : Int) car up down = some (((n : Int), ()), ()) ∧ ngi' (fl : Int) car up down = some (((n : Int), ()), ()) := by
  obtain ⟨a, u, d, hcnt, c⟩ := nkk' hfl car up down
  have ea := nsu' c.la hfl fun i hi => (c.hi i hi).1
  have eu := nsu' c.lu hfl fun i hi => (c.hi i hi).2.1
  have ed := nsu' c.ld hfl fun i hi => (c.hi i hi).2.2
  have la := sB_le a fl 0
  have lu := sB_le u fl 0
  have ld := sB_le d fl 0
  refine ⟨sB a fl 0 + sB u fl 0 + sB d fl 0, by omega, ?_, ?_⟩
  · unfold nfp' nkc'
    rw [ng9' ⟨by omega, by omega⟩, hcnt]
    simp only [Option.bind_some, Bool.not_true, cond_false, nst' c.la, nst' c.lu, nst' c.ld]
    rw [← ea, ← eu, ← ed]
    rw [nb' (n := ((sB u fl 0 : Nat) : Int) + ((sB d fl 0 : Nat) : Int)) (by omega) (by omega), nb' (by omega) (by omega)]
    have : ((sB a fl 0 : Nat) : Int) + (((sB u fl 0 : Nat) : Int) + ((sB d fl 0 : Nat) : Int)) = ((sB a fl 0 + sB u fl 0 + sB d fl 0 : Nat) : Int) := by omega
    rw [this]
  · unfold ngi'
    rw [decide_eq_false (show ¬ ((fl : Int) < 2) by omega), decide_eq_false (show ¬ ((32 : Int) < fl) by omega)]
    have hl := ns' (nmr' h2 hfl hc hu hd c fl 0 0 (by omega) (by omega)) (by omega)
    have hl' : nhy' (((fl : Int), (), (0 : Int), (0 : Int), ()), ((car, up, down, ()), ())) = _ := hl
    rw [hl']
    simp only [cond_false, Option.bind_some, Nat.zero_add]
end Go.Ovl
namespace Go.Ovl
open Go Go.Ab
set_option maxRecDepth 100000
def View.none : View := View.mk false false false false 0 0 0 0 0 0 0 0
def Car.none : Car := Car.mk 0 0 0 0 0 0 0 0 0
structure View.ok (v : View) : Prop where
  c : u32r v.Stops_Car
  u : u32r v.Stops_Hall_Up
  d : u32r v.Stops_Hall_Down
noncomputable def estP (b : Bldg) (car : Int) (v : View) (floor dir : Int) : Option ((Int × Unit) × Unit) :=
  nc2' b.Floors b.Debounce b.Room b.Park b.Empty b.Full b.Over b.Cars car v.Ready v.Serving v.Legacy v.Lost v.Floor v.Dir v.Load v.Shows_Up v.Shows_Down v.Stops_Car v.Stops_Hall_Up v.Stops_Hall_Down floor dir
noncomputable def estR (b : Bldg) (car : Int) (v : View) (floor dir : Int) : Option ((Int × Unit) × Unit) :=
  nfi' b.Floors b.Debounce b.Room b.Park b.Empty b.Full b.Over b.Cars car v.Ready v.Serving v.Legacy v.Lost v.Floor v.Dir v.Load v.Shows_Up v.Shows_Down v.Stops_Car v.Stops_Hall_Up v.Stops_Hall_Down floor dir
noncomputable def estV (b : Bldg) (car : Int) (v : View) (floor dir : Int) : Int := match estR b car v floor dir with | some r => r.1.1 | none => 0
theorem n4t' {b : Bldg} (hb : b.small) {v : View} (hv : v.ok) (car floor dir : Int) : ∃ n : Int, estP b car v floor dir = some ((n, ()), ()) ∧ estR b car v floor dir = some ((n, ()), ()) := by
  unfold estP estR nc2' nfi'
  rw [nb8', nfz']
  simp only [Option.bind_some]
  cases b.code != 0 with
  | true => exact ⟨_, rfl, rfl⟩
  | false =>
    simp only [cond_false]
    by_cases g1 : car < 0
    · rw [decide_eq_true g1]; exact ⟨_, rfl, rfl⟩
    rw [decide_eq_false g1]
    simp only [cond_false]
    by_cases g2 : (b.Cars.length : Int) ≤ car
    · rw [decide_eq_true g2]; exact ⟨_, rfl, rfl⟩
    rw [decide_eq_false g2]
    simp only [cond_false]
    have ib : inB car b.Cars.length = true := nc' (by omega) (by omega)
    have fl : (b.Floors.toNat : Int) = b.Floors := by have := hb.lo; omega
    have key : ∀ sw : Int, ∃ n : Int, ndl' b.Floors v.Floor sw v.Stops_Car v.Stops_Hall_Up v.Stops_Hall_Down floor dir = some ((n, ()), ()) ∧ nd7' b.Floors v.Floor sw v.Stops_Car v.Stops_Hall_Up v.Stops_Hall_Down floor dir = some ((n, ()), ()) ∧ (v.Floor < 0 → n = -1) := fun sw => by
      have := n3y' (fl := b.Floors.toNat) (by have := hb.lo; omega) (by have := hb.hi; omega) hv.c hv.u hv.d v.Floor sw floor dir
      rw [fl] at this; exact this
    obtain ⟨k, _, c1, c2⟩ : ∃ n : Nat, n ≤ 24 ∧ nfp' b.Floors v.Stops_Car v.Stops_Hall_Up v.Stops_Hall_Down = some (((n : Int), ()), ()) ∧ ngi' b.Floors v.Stops_Car v.Stops_Hall_Up v.Stops_Hall_Down = some (((n : Int), ()), ()) := by
      have := n3k' (fl := b.Floors.toNat) (by have := hb.lo; omega) (by have := hb.hi; omega) hv.c hv.u hv.d
      rw [fl] at this; exact this
    have fin : ∀ sw : Int, ∃ n : Int,
        ((ndl' b.Floors v.Floor sw v.Stops_Car v.Stops_Hall_Up v.Stops_Hall_Down floor dir).bind fun y3 => bif decide (y3.1.1 < 0) then some ((1000000, ()), ()) else
          bif inB car b.Cars.length then
            let z0 : Car := b.Cars.getD car.toNat (Car.mk 0 0 0 0 0 0 0 0 0)
            (nfp' b.Floors v.Stops_Car v.Stops_Hall_Up v.Stops_Hall_Down).bind fun y4 =>
            let z1 : Int := IntKind.i64.wrap (IntKind.i64.wrap (y3.1.1 * z0.Step) + IntKind.i64.wrap (y4.1.1 * IntKind.i64.wrap (IntKind.i64.wrap (2 * z0.Travel) + z0.Dwell)))
            some (((bif decide (1000000 < z1) then 1000000 else z1), ()), ())
          else none) = some ((n, ()), ()) ∧
        (bif decide (v.Floor < 0) then some ((1000000, ()), ()) else (nd7' b.Floors v.Floor sw v.Stops_Car v.Stops_Hall_Up v.Stops_Hall_Down floor dir).bind fun y3 => bif decide (y3.1.1 < 0) then some ((1000000, ()), ()) else
          bif inB car b.Cars.length then
            let z0 : Car := b.Cars.getD car.toNat (Car.mk 0 0 0 0 0 0 0 0 0)
            (ngi' b.Floors v.Stops_Car v.Stops_Hall_Up v.Stops_Hall_Down).bind fun y4 =>
            let z1 : Int := IntKind.i64.wrap (IntKind.i64.wrap (y3.1.1 * z0.Step) + IntKind.i64.wrap (y4.1.1 * IntKind.i64.wrap (IntKind.i64.wrap (2 * z0.Travel) + z0.Dwell)))
            some (((bif decide (1000000 < z1) then 1000000 else z1), ()), ())
          else none) = some ((n, ()), ()) := fun sw => by
      obtain ⟨n, q1, q2, q3⟩ := key sw
      rw [q1, q2, c1, c2, ib]
      simp only [Option.bind_some, cond_true]
      by_cases g : v.Floor < 0
      · have := q3 g
        subst this
        rw [decide_eq_true g]
        exact ⟨_, rfl, rfl⟩
      · rw [decide_eq_false g]
        cases decide (n < 0) <;> exact ⟨_, rfl, rfl⟩
    cases v.Dir == 3 with
    | true =>
      obtain ⟨n, h1, h2⟩ := fin 0
      exact ⟨n, h1, by
        cases hd : decide (v.Floor < 0) with
        | true => rw [hd] at h2; exact h2
        | false => rw [hd] at h2; exact h2⟩
    | false =>
      obtain ⟨n, h1, h2⟩ := fin v.Dir
      exact ⟨n, h1, by
        cases hd : decide (v.Floor < 0) with
        | true => rw [hd] at h2; exact h2
        | false => rw [hd] at h2; exact h2⟩
theorem nx1' {b : Bldg} (hb : b.small) {v : View} (hv : v.ok) (car floor dir : Int) : estP b car v floor dir = some ((estV b car v floor dir, ()), ()) := by
  obtain ⟨n, h1, h⟩ := n4t' hb hv car floor dir
  rw [show estV b car v floor dir = n by unfold estV; rw [h]]; exact h1
end Go.Ovl
namespace Go.Ovl
open Go Go.Ab
set_option maxRecDepth 100000
def fullV (v : View) : Bool := v.Load == 3 || v.Load == 4
theorem ni4' (v : View) : nd0' v.Ready v.Serving v.Legacy v.Lost v.Floor v.Dir v.Load v.Shows_Up v.Shows_Down v.Stops_Car v.Stops_Hall_Up v.Stops_Hall_Down = some ((fullV v, ()), ()) := by
  unfold nd0' fullV
  cases v.Load == 3 <;> rfl
def betB (a b : Int × Int) : Bool := decide (a.1 < b.1) || (a.1 == b.1 && decide (a.2 < b.2))
theorem nlt' (a b : Int × Int) : ne5' a.1 a.2 b.1 b.2 = some ((betB a b, ()), ()) := by
  unfold ne5' betB
  by_cases h : a.1 = b.1
  · by_cases h' : a.2 = b.2
    · rw [h, h', beq_self_eq_true, beq_self_eq_true, decide_eq_false (by omega), decide_eq_false (by omega)]; rfl
    · rw [h, beq_self_eq_true, beq_f h', decide_eq_false (by omega)]; rfl
  · rw [beq_f h]
    cases decide (a.1 < b.1) <;> rfl
def nd' (vs : List View) (i : Int) : View := vs.getD i.toNat (View.mk false false false false 0 0 0 0 0 0 0 0)
def okViews (vs : List View) : Prop := ∀ v ∈ vs, v.ok
theorem View.ok_none : View.ok (View.mk false false false false 0 0 0 0 0 0 0 0) := ⟨⟨by decide, by decide⟩, ⟨by decide, by decide⟩, ⟨by decide, by decide⟩⟩
theorem okViews.at {vs : List View} (h : okViews vs) (i : Int) : (nd' vs i).ok := by
  unfold nd'
  rw [List.getD_eq_getElem?_getD]
  cases hq : vs[i.toNat]? with
  | none => exact View.ok_none
  | some v => exact h v (List.mem_of_getElem? hq)
noncomputable def rankV (b : Bldg) (vs : List View) (floor dir : Int) (car : Int) : Int × Int := ((bif fullV (nd' vs car) then 1 else 0), estV b car (nd' vs car) floor dir)
theorem nje' {b : Bldg} (hb : b.small) {vs : List View} (hv : okViews vs) {car : Int} (hc : 0 ≤ car ∧ car < vs.length) (floor dir : Int) :
    nev' b.Floors b.Debounce b.Room b.Park b.Empty b.Full b.Over b.Cars vs car floor dir = some (((), ()), (((rankV b vs floor dir car).1, (rankV b vs floor dir car).2, ()), ())) := by
  unfold nev'
  have e : nc2' b.Floors b.Debounce b.Room b.Park b.Empty b.Full b.Over b.Cars car (nd' vs car).Ready (nd' vs car).Serving (nd' vs car).Legacy (nd' vs car).Lost (nd' vs car).Floor (nd' vs car).Dir (nd' vs car).Load (nd' vs car).Shows_Up (nd' vs car).Shows_Down (nd' vs car).Stops_Car (nd' vs car).Stops_Hall_Up (nd' vs car).Stops_Hall_Down floor dir = _ := nx1' hb (hv.at car) car floor dir
  rw [nc' hc.1 hc.2]
  show (nc2' b.Floors b.Debounce b.Room b.Park b.Empty b.Full b.Over b.Cars car (nd' vs car).Ready (nd' vs car).Serving (nd' vs car).Legacy (nd' vs car).Lost (nd' vs car).Floor (nd' vs car).Dir (nd' vs car).Load (nd' vs car).Shows_Up (nd' vs car).Shows_Down (nd' vs car).Stops_Car (nd' vs car).Stops_Hall_Up (nd' vs car).Stops_Hall_Down floor dir).bind (fun y1 => (nd0' (nd' vs car).Ready (nd' vs car).Serving (nd' vs car).Legacy (nd' vs car).Lost (nd' vs car).Floor (nd' vs car).Dir (nd' vs car).Load (nd' vs car).Shows_Up (nd' vs car).Shows_Down (nd' vs car).Stops_Car (nd' vs car).Stops_Hall_Up (nd' vs car).Stops_Hall_Down).bind (fun y2 => bif y2.1.1 then some (((), ()), (((1 : Int), y1.1.1, ()), ())) else some (((), ()), (((0 : Int), y1.1.1, ()), ())))) = _
  rw [e, Option.bind_some, ni4', Option.bind_some]
  unfold rankV
  cases fullV (nd' vs car) <;> rfl
noncomputable def nhb' (b : Bldg) (vs : List View) (floor dir except : Int) (i best : Int) : Int :=
  bif !(nd' vs i).Ready || i == except then best else bif best == -1 || betB (rankV b vs floor dir i) (rankV b vs floor dir best) then i else best
noncomputable def bestF (b : Bldg) (vs : List View) (floor dir except : Int) : Nat → Nat → Int → Int
  | 0, _, best => best
  | m + 1, i, best => bestF b vs floor dir except m (i + 1) (nhb' b vs floor dir except i best)
noncomputable def nb3' (b : Bldg) (vs : List View) (floor dir except : Int) : Int :=
  bif b.code != 0 || (vs.length : Int) != (b.Cars.length : Int) then -1 else bestF b vs floor dir except vs.length 0 (-1)
def njt' (vs : List View) (best : Int) : Prop := best = -1 ∨ (0 ≤ best ∧ best < vs.length)
theorem npk' {b : Bldg} {vs : List View} {floor dir except : Int} {i : Nat} (hi : i < vs.length) {best : Int} (h : njt' vs best) : njt' vs (nhb' b vs floor dir except i best) := by
  unfold nhb'
  cases (!(nd' vs i).Ready || (i : Int) == except) with
  | true => exact h
  | false =>
    simp only [cond_false]
    cases (best == -1 || betB (rankV b vs floor dir i) (rankV b vs floor dir best)) with
    | true => exact .inr (by simp only [cond_true]; omega)
    | false => exact h
theorem nj1' {b : Bldg} (hb : b.small) {vs : List View} (hv : okViews vs) (hl : vs.length ≤ 100) (floor dir except : Int) :
    ∀ (m i : Nat) (best l0 l1 : Int), i + m = vs.length → njt' vs best → (best ≠ -1 → (l0, l1) = rankV b vs floor dir best) →
      iter (fun x => nc4' x.1.1 x.1.2.1 x.1.2.2.1 x.1.2.2.2.1 x.1.2.2.2.2.2.1 x.1.2.2.2.2.2.2.2.1 x.1.2.2.2.2.2.2.2.2.1 x.1.2.2.2.2.2.2.2.2.2.1 x.2.1.1 x.2.1.2.1 x.2.1.2.2.1 x.2.1.2.2.2.1 x.2.1.2.2.2.2.1 x.2.1.2.2.2.2.2.1 x.2.1.2.2.2.2.2.2.1 x.2.1.2.2.2.2.2.2.2.1 x.2.2.1.1 x.2.2.1.2.1) (m + 1) ((vs, floor, dir, except, (), best, (), vs, (vs.length : Int), (i : Int), ()), (b.tup, (l0, l1, ()), ())) = some ((bestF b vs floor dir except m i best, ()), ())
  | 0, i, best, l0, l1, hi, hin, hr => by
    refine nj' ?_
    show nc4' vs floor dir except best vs (vs.length : Int) (i : Int) b.Floors b.Debounce b.Room b.Park b.Empty b.Full b.Over b.Cars l0 l1 = _
    unfold nc4'
    have e : decide ((i : Int) < (vs.length : Int)) = false := by simp; omega
    rw [e]; rfl
  | m + 1, i, best, l0, l1, hi, hin, hr => by
    have hi' : i < vs.length := by omega
    have e : decide ((i : Int) < (vs.length : Int)) = true := by simp; omega
    have ib : inB (i : Int) vs.length = true := nc' (by omega) (by omega)
    have w : IntKind.i64.wrap ((i : Int) + 1) = ((i + 1 : Nat) : Int) := by rw [nb' (by omega) (by omega)]; omega
    have hs : ∃ l0' l1', (nhb' b vs floor dir except i best ≠ -1 → (l0', l1') = rankV b vs floor dir (nhb' b vs floor dir except i best)) ∧ nc4' vs floor dir except best vs (vs.length : Int) (i : Int) b.Floors b.Debounce b.Room b.Park b.Empty b.Full b.Over b.Cars l0 l1 = some (.inl ((vs, floor, dir, except, (), nhb' b vs floor dir except i best, (), vs, (vs.length : Int), ((i + 1 : Nat) : Int), ()), (b.tup, (l0', l1', ()), ()))) := by
      unfold nc4'
      have k1 := nje' hb hv (car := (i : Int)) (by omega) floor dir
      rw [e, ib, w]
      simp only [cond_true]
      unfold nhb'
      rw [show vs.getD (Int.toNat (i : Int)) (View.mk false false false false 0 0 0 0 0 0 0 0) = nd' vs (i : Int) from rfl]
      cases (nd' vs (i : Int)).Ready with
      | false => exact ⟨l0, l1, hr, rfl⟩
      | true =>
        simp only [Bool.not_true, cond_false, Bool.false_or]
        cases (i : Int) == except with
        | true => exact ⟨l0, l1, hr, rfl⟩
        | false =>
          simp only [cond_false, k1, Option.bind_some]
          rcases hin with hbest | hbest
          · subst hbest
            rw [show ((-1 : Int) == -1) = true from rfl]
            simp only [cond_true, Option.bind_some, w, Bool.true_or]
            exact ⟨_, _, fun _ => rfl, rfl⟩
          · have hr' := hr (by omega)
            have e1 : l0 = (rankV b vs floor dir best).1 := congrArg Prod.fst hr'
            have e2 : l1 = (rankV b vs floor dir best).2 := congrArg Prod.snd hr'
            subst e1 e2
            rw [beq_f (show ¬ best = -1 by omega)]
            simp only [cond_false, Option.bind_some, Bool.false_or, nlt']
            cases betB (rankV b vs floor dir i) (rankV b vs floor dir best) with
            | true => simp only [cond_true, w]; exact ⟨_, _, fun _ => rfl, rfl⟩
            | false => simp only [cond_false, w]; exact ⟨_, _, fun _ => rfl, rfl⟩
    obtain ⟨l0', l1', h1, h2⟩ := hs
    exact (ny' h2).trans (nj1' hb hv hl floor dir except m (i + 1) _ l0' l1' (by omega) (npk' hi' hin) h1)
theorem nh4' {b : Bldg} (hb : b.small) {vs : List View} (hv : okViews vs) (hl : vs.length ≤ 100) (floor dir except : Int) :
    ndu' b.Floors b.Debounce b.Room b.Park b.Empty b.Full b.Over b.Cars vs floor dir except = some ((nb3' b vs floor dir except, ()), ()) := by
  unfold ndu' nb3'
  rw [nb8', Option.bind_some]
  cases b.code != 0 with
  | true => rfl
  | false =>
    simp only [cond_false, Bool.false_or]
    cases (vs.length : Int) != (b.Cars.length : Int) with
    | true => rfl
    | false =>
      have h := ns' (nj1' hb hv hl floor dir except vs.length 0 (-1) 0 0 (by omega) (.inl rfl) (fun h => absurd rfl h)) (by omega)
      have h' : nff' ((vs, floor, dir, except, (), (-1 : Int), (), vs, (vs.length : Int), (0 : Int), ()), (b.tup, ((0 : Int), (0 : Int), ()), ())) = _ := h
      simp only [cond_false]
      refine (congrArg (fun z => Option.bind z _) h').trans ?_
      rfl
end Go.Ovl
namespace Go.Ovl
open Go Go.Ab
set_option maxRecDepth 100000
theorem nu6' {b : Bldg} {vs : List View} {floor dir except : Int} : ∀ (m i : Nat) (best : Int), i + m = vs.length → njt' vs best → njt' vs (bestF b vs floor dir except m i best)
  | 0, _, _, _, h => h
  | m + 1, i, best, hi, h => nu6' m (i + 1) _ (by omega) (npk' (by omega) h)
theorem nku' (b : Bldg) (vs : List View) (floor dir except : Int) : njt' vs (nb3' b vs floor dir except) := by
  unfold nb3'
  cases (b.code != 0 || (vs.length : Int) != (b.Cars.length : Int)) with
  | true => exact .inl rfl
  | false => exact nu6' vs.length 0 (-1) (by omega) (.inl rfl)
noncomputable def npf' (b : Bldg) (vs : List View) (e : Entry) (x n : Int) : Bool :=
  ((nd' vs e.Car).Legacy && (x == 0 && betB (rankV b vs e.Floor e.Dir n) (rankV b vs e.Floor e.Dir e.Car))) || (!(nd' vs e.Car).Legacy && (fullV (nd' vs e.Car) && !fullV (nd' vs n)))
noncomputable def ne4' (b : Bldg) (vs : List View) (e : Entry) (x : Int) : Int :=
  bif nb3' b vs e.Floor e.Dir e.Car == -1 then -1 else bif npf' b vs e x (nb3' b vs e.Floor e.Dir e.Car) then nb3' b vs e.Floor e.Dir e.Car else -1
noncomputable def decV (b : Bldg) (vs : List View) (e : Entry) (x : Int) : Entry :=
  bif e.Car == -2 then e
  else bif e.Car == -1 then ⟨e.Floor, e.Dir, nb3' b vs e.Floor e.Dir (-1), e.Moves, e.Moved⟩
  else bif (nd' vs e.Car).Lost then (bif decide ((b.Cars.length : Int) < e.Moves) then ⟨e.Floor, e.Dir, -2, e.Moves, e.Moved⟩ else ⟨e.Floor, e.Dir, nb3' b vs e.Floor e.Dir e.Car, e.Moves + 1, e.Moved⟩)
  else bif !e.Moved && decide (e.Moves ≤ (b.Cars.length : Int)) then (bif ne4' b vs e x != -1 then ⟨e.Floor, e.Dir, ne4' b vs e x, e.Moves + 1, true⟩ else e)
  else e
def Entry.tup (e : Entry) : Int × Int × Int × Int × Bool × Unit := (e.Floor, e.Dir, e.Car, e.Moves, e.Moved, ())
section
variable {b : Bldg} (hb : b.small) {vs : List View} (hv : okViews vs) (hl : vs.length ≤ 100) {e : Entry}
include hb hv hl
theorem np7' (hc : 0 ≤ e.Car ∧ e.Car < vs.length) (x : Int) : ndn' b.Floors b.Debounce b.Room b.Park b.Empty b.Full b.Over b.Cars vs e.Floor e.Dir e.Car e.Moves e.Moved x = some ((ne4' b vs e x, ()), ()) := by
  unfold ndn' ne4'
  have hn := nku' b vs e.Floor e.Dir e.Car
  rw [nh4' hb hv hl]
  generalize nb3' b vs e.Floor e.Dir e.Car = n at hn
  simp only [Option.bind_some]
  rcases hn with rfl | hn
  · rfl
  · have k1 := nje' hb hv hn e.Floor e.Dir
    have k2 := nje' hb hv hc e.Floor e.Dir
    have f1 := ni4' (nd' vs e.Car)
    have f2 := ni4' (nd' vs n)
    rw [beq_f (show ¬ n = -1 by omega), nc' hc.1 hc.2]
    unfold npf'
    unfold nd' at f1 f2 ⊢
    simp only [cond_true, cond_false]
    cases hleg : (vs.getD e.Car.toNat (View.mk false false false false 0 0 0 0 0 0 0 0)).Legacy with
    | true =>
      simp only [cond_true, Bool.true_and, Bool.not_true, Bool.false_and, Bool.or_false]
      cases x == 0 with
      | true =>
        simp only [cond_true, Bool.true_and, k1, k2, Option.bind_some, nlt']
        cases betB (rankV b vs e.Floor e.Dir n) (rankV b vs e.Floor e.Dir e.Car) <;> rfl
      | false => rfl
    | false =>
      rw [hleg] at f1
      simp only [cond_false, Bool.false_and, Bool.not_false, Bool.true_and, Bool.false_or, Option.bind_some, cond_true, f1]
      cases fullV (vs.getD e.Car.toNat (View.mk false false false false 0 0 0 0 0 0 0 0)) with
      | false => rfl
      | true =>
        simp only [cond_true, nc' hn.1 hn.2, Bool.true_and, f2, Option.bind_some]
        cases fullV (vs.getD n.toNat (View.mk false false false false 0 0 0 0 0 0 0 0)) <;> rfl
theorem npj' (hc : -2 ≤ e.Car ∧ e.Car < vs.length) (hm : 0 ≤ e.Moves ∧ e.Moves ≤ 255) (x : Int) : nde' b.Floors b.Debounce b.Room b.Park b.Empty b.Full b.Over b.Cars vs e.Floor e.Dir e.Car e.Moves e.Moved x = some (((), ()), ((decV b vs e x).tup, ())) := by
  unfold nde' decV
  have w : IntKind.i64.wrap (e.Moves + 1) = e.Moves + 1 := nb' (by omega) (by omega)
  by_cases g1 : e.Car = -2
  · rw [show (e.Car == -2) = true by rw [g1]; rfl]; rfl
  rw [beq_f g1]
  by_cases g2 : e.Car = -1
  · rw [show (e.Car == -1) = true by rw [g2]; rfl]
    simp only [cond_true, cond_false, nh4' hb hv hl, Option.bind_some]
    rfl
  rw [beq_f g2]
  have hc' : 0 ≤ e.Car ∧ e.Car < vs.length := by omega
  have ho := np7' hb hv hl hc' x
  unfold nd'
  simp only [cond_false, nc' hc'.1 hc'.2, cond_true]
  cases hlost : (vs.getD e.Car.toNat (View.mk false false false false 0 0 0 0 0 0 0 0)).Lost with
  | true =>
    simp only [cond_true, Option.bind_some]
    cases decide ((b.Cars.length : Int) < e.Moves) with
    | true => rfl
    | false =>
      simp only [cond_false, nc' hc'.1 hc'.2, cond_true, hlost, nh4' hb hv hl, Option.bind_some, w]
      rfl
  | false =>
    simp only [cond_false, Option.bind_some, nc' hc'.1 hc'.2, cond_true, hlost]
    cases hmv : e.Moved with
    | true =>
      simp only [Bool.not_true, cond_false, Option.bind_some, Bool.false_and]
      unfold Entry.tup; rw [hmv]
    | false =>
      rw [hmv] at ho
      simp only [Bool.not_false, cond_true, Option.bind_some, Bool.true_and]
      cases decide (e.Moves ≤ (b.Cars.length : Int)) with
      | false =>
        simp only [cond_false]
        unfold Entry.tup; rw [hmv]
      | true =>
        simp only [cond_true, ho, Option.bind_some, w]
        cases ne4' b vs e x != -1 with
        | true => rfl
        | false =>
          simp only [cond_false]
          unfold Entry.tup; rw [hmv]
end
end Go.Ovl
namespace Go.Ovl
open Go Go.Ab
set_option maxRecDepth 100000
def recsV (was now : Entry) : List Record :=
  (bif was.Moves != now.Moves || !(was.Moved == now.Moved) then [⟨7, now.Floor, now.Dir, (bif now.Moved then 1 else 0), now.Moves⟩] else []) ++ (bif was.Car != now.Car then [⟨3, now.Floor, now.Dir, now.Car, 0⟩] else [])
theorem nti' (a b : Entry) : (recsV a b).length ≤ 2 := by
  unfold recsV
  cases (a.Moves != b.Moves || !(a.Moved == b.Moved)) <;> cases a.Car != b.Car <;> simp
theorem nph' (a c : Entry) : nga' a.Floor a.Dir a.Car a.Moves a.Moved c.Floor c.Dir c.Car c.Moves c.Moved = some ((recsV a c, ()), ()) := by
  unfold nga' recsV
  have b1 : ∀ r : Record, Nat.ble (([] : List Record).length + [r].length) 2147483648 = true := fun _ => nbp' (by simp)
  have b2 : ∀ r s : Record, Nat.ble (([] ++ [s] : List Record).length + [r].length) 2147483648 = true := fun _ _ => nbp' (by simp)
  cases a.Moves != c.Moves <;> cases a.Moved == c.Moved <;> cases hm : c.Moved <;> cases hc : a.Car != c.Car <;>
    simp only [cond_true, cond_false, Option.bind_some, Bool.not_true, Bool.not_false, Bool.or_true, Bool.true_or, Bool.or_self, b1, b2, hc] <;> rfl
def carAt (b : Bldg) (i : Int) : Car := b.Cars.getD i.toNat (Car.mk 0 0 0 0 0 0 0 0 0)
noncomputable def nextV (b : Bldg) (vs : List View) (e n : Entry) (x : Int) : Int :=
  bif n.Car != e.Car && decide (0 ≤ n.Car) then (bif decide (1000000 < IntKind.i64.wrap (estV b n.Car (nd' vs n.Car) e.Floor e.Dir + (carAt b n.Car).Slack)) then 1000000 else IntKind.i64.wrap (estV b n.Car (nd' vs n.Car) e.Floor e.Dir + (carAt b n.Car).Slack))
  else (bif decide (IntKind.i64.wrap (x - 1) < 0) then 0 else IntKind.i64.wrap (x - 1))
noncomputable def planR (b : Bldg) (vs : List View) : List Entry → List Int → List Record
  | e :: t, x :: xs => recsV e (decV b vs e x) ++ planR b vs t xs
  | _, _ => []
noncomputable def planN (b : Bldg) (vs : List View) : List Entry → List Int → List Int
  | e :: t, x :: xs => nextV b vs e (decV b vs e x) x :: planN b vs t xs
  | _, _ => []
theorem n0u' (b : Bldg) (vs : List View) (e : Entry) (x : Int) : (decV b vs e x).Floor = e.Floor ∧ (decV b vs e x).Dir = e.Dir := by
  unfold decV
  cases e.Car == -2 <;> cases e.Car == -1 <;> cases (nd' vs e.Car).Lost <;> cases decide ((b.Cars.length : Int) < e.Moves) <;> cases (!e.Moved && decide (e.Moves ≤ (b.Cars.length : Int))) <;> cases ne4' b vs e x != -1 <;> exact ⟨rfl, rfl⟩
theorem n2f' (b : Bldg) (vs : List View) (e : Entry) (x : Int) : njt' vs (ne4' b vs e x) := by
  unfold ne4'
  cases nb3' b vs e.Floor e.Dir e.Car == -1 with
  | true => exact .inl rfl
  | false =>
    cases npf' b vs e x (nb3' b vs e.Floor e.Dir e.Car) with
    | true => exact nku' ..
    | false => exact .inl rfl
theorem nxw' (b : Bldg) {vs : List View} {e : Entry} (h : -2 ≤ e.Car ∧ e.Car < vs.length) (x : Int) : -2 ≤ (decV b vs e x).Car ∧ (decV b vs e x).Car < vs.length := by
  have k : ∀ n : Int, njt' vs n → -2 ≤ n ∧ n < vs.length := fun n h => by
    rcases h with rfl | h
    · omega
    · omega
  unfold decV
  by_cases g1 : e.Car = -2
  · rw [show (e.Car == -2) = true by rw [g1]; rfl]; exact h
  rw [beq_f g1]
  by_cases g2 : e.Car = -1
  · rw [show (e.Car == -1) = true by rw [g2]; rfl]; exact k _ (nku' ..)
  rw [beq_f g2]
  simp only [cond_false]
  cases (nd' vs e.Car).Lost with
  | true =>
    cases decide ((b.Cars.length : Int) < e.Moves) with
    | true => exact ⟨by show (-2 : Int) ≤ -2; omega, by show (-2 : Int) < _; omega⟩
    | false => exact k _ (nku' ..)
  | false =>
    cases (!e.Moved && decide (e.Moves ≤ (b.Cars.length : Int))) with
    | true =>
      cases ne4' b vs e x != -1 with
      | true => exact k _ (n2f' ..)
      | false => exact h
    | false => exact h
theorem nto' {b : Bldg} : ∀ {l : List Entry} {p : Option Entry}, entsF b p l = true → ∀ e ∈ l, entOK b e = true
  | [], _, _, _, he => by cases he
  | a :: t, p, h, e, he => by
    simp only [entsF, Bool.and_eq_true] at h
    rcases List.mem_cons.1 he with rfl | he
    · exact h.1
    · exact nto' h.2.2 e he
theorem nk6' {α : Type} (N : List α) (a v : α) (t : List α) : (N ++ a :: t).set N.length v = N ++ v :: t := by
  induction N with
  | nil => rfl
  | cons h N ih => simp only [List.cons_append, List.length_cons, List.set_cons_succ, ih]
section
variable {b : Bldg} (hb : b.small) {vs : List View} (hv : okViews vs) (hl : vs.length ≤ 100) (hlen : (vs.length : Int) = (b.Cars.length : Int)) {m : Img} (hm : ∀ e ∈ m.Entries, entOK b e = true) (hm' : m.Entries.length ≤ 1000) {xs : List Int} (hx : xs.length = m.Entries.length)
include hb hv hl hlen hm hm' hx
theorem nla' : ∀ (k i : Nat) (out : List Record) (N : List Int), i + k = m.Entries.length → N.length = i → out.length ≤ 2 * i →
    iter (fun x => ndr' x.1.1 x.1.2.1 x.1.2.2.2.2.1 x.1.2.2.2.2.2.1 x.1.2.2.2.2.2.2.1 x.1.2.2.2.2.2.2.2.1 x.1.2.2.2.2.2.2.2.2.1 x.2.1.1 x.2.1.2.1 x.2.1.2.2.1 x.2.1.2.2.2.1 x.2.1.2.2.2.2.1 x.2.1.2.2.2.2.2.1 x.2.1.2.2.2.2.2.2.1 x.2.1.2.2.2.2.2.2.2.1 x.2.2.1.1 x.2.2.1.2.1 x.2.2.1.2.2.1 x.2.2.1.2.2.2.1 x.2.2.1.2.2.2.2.1 x.2.2.1.2.2.2.2.2.1 x.2.2.1.2.2.2.2.2.2.1 x.2.2.1.2.2.2.2.2.2.2.1 x.2.2.1.2.2.2.2.2.2.2.2.1) (k + 1)
      ((xs, vs, (), (), out, N ++ List.replicate k 0, m.Entries, (m.Entries.length : Int), (i : Int), ()), (b.tup, (b.Floors, b.Debounce, b.Room, b.Park, b.Empty, b.Full, b.Over, b.Cars, vs, ()), ())) = some ((out ++ planR b vs (m.Entries.drop i) (xs.drop i), N ++ planN b vs (m.Entries.drop i) (xs.drop i), ()), ())
  | 0, i, out, N, hi, hN, ho => by
    refine nj' ?_
    show ndr' xs vs out (N ++ []) m.Entries (m.Entries.length : Int) (i : Int) b.Floors b.Debounce b.Room b.Park b.Empty b.Full b.Over b.Cars b.Floors b.Debounce b.Room b.Park b.Empty b.Full b.Over b.Cars vs = _
    unfold ndr'
    have e : decide ((i : Int) < (m.Entries.length : Int)) = false := by simp; omega
    rw [e, show i = m.Entries.length by omega, List.drop_length]
    simp [planR, planN]
  | k + 1, i, out, N, hi, hN, ho => by
    have hi' : i < m.Entries.length := by omega
    have hix : i < xs.length := by omega
    have e : decide ((i : Int) < (m.Entries.length : Int)) = true := by simp; omega
    have ib : inB (i : Int) m.Entries.length = true := nc' (by omega) (by omega)
    have ibx : inB (i : Int) xs.length = true := nc' (by omega) (by omega)
    have ibn : inB (i : Int) (N ++ List.replicate (k + 1) (0 : Int)).length = true := nc' (by omega) (by simp; omega)
    have w : IntKind.i64.wrap ((i : Int) + 1) = ((i + 1 : Nat) : Int) := by rw [nb' (by omega) (by omega)]; omega
    have hok := nd2' noE hi'
    have hent := hm _ hok
    simp only [entOK, Bool.and_eq_true, decide_eq_true_eq] at hent
    obtain ⟨_, c1, c2, c3, c4⟩ := hent
    have hd := npj' hb hv hl (e := m.Entries.getD i noE) (by omega) ⟨c3, c4⟩ (xs.getD i 0)
    have hr := nph' (m.Entries.getD i noE) (decV b vs (m.Entries.getD i noE) (xs.getD i 0))
    have hin := nxw' b (vs := vs) (e := m.Entries.getD i noE) (by omega) (xs.getD i 0)
    have hrl := nti' (m.Entries.getD i noE) (decV b vs (m.Entries.getD i noE) (xs.getD i 0))
    have hble : Nat.ble (out.length + (recsV (m.Entries.getD i noE) (decV b vs (m.Entries.getD i noE) (xs.getD i 0))).length) 2147483648 = true := nbp' (by omega)
    have hset : ∀ v : Int, (N ++ List.replicate (k + 1) (0 : Int)).set i v = N ++ v :: List.replicate k 0 := fun v => by
      rw [← hN]; exact nk6' N 0 v (List.replicate k 0)
    have hset2 : ∀ v u : Int, (N ++ v :: List.replicate k (0 : Int)).set i u = N ++ u :: List.replicate k 0 := fun v u => by
      rw [← hN]; exact nk6' N v u (List.replicate k 0)
    have ibn2 : ∀ v : Int, inB (i : Int) (N ++ v :: List.replicate k (0 : Int)).length = true := fun v => nc' (by omega) (by simp; omega)
    rw [n8' noE hi', n8' (0 : Int) hix]
    refine (ny' (x' := ((xs, vs, (), (), out ++ recsV (m.Entries.getD i noE) (decV b vs (m.Entries.getD i noE) (xs.getD i 0)), (N ++ [nextV b vs (m.Entries.getD i noE) (decV b vs (m.Entries.getD i noE) (xs.getD i 0)) (xs.getD i 0)]) ++ List.replicate k 0, m.Entries, (m.Entries.length : Int), ((i + 1 : Nat) : Int), ()), (b.tup, (b.Floors, b.Debounce, b.Room, b.Park, b.Empty, b.Full, b.Over, b.Cars, vs, ()), ()))) ?_).trans ?_
    · show ndr' xs vs out (N ++ List.replicate (k + 1) 0) m.Entries (m.Entries.length : Int) (i : Int) b.Floors b.Debounce b.Room b.Park b.Empty b.Full b.Over b.Cars b.Floors b.Debounce b.Room b.Park b.Empty b.Full b.Over b.Cars vs = _
      unfold ndr'
      rw [e, ib, ibx, show Entry.mk 0 0 0 0 false = noE from rfl]
      unfold Entry.tup at hd
      simp only [cond_true, Int.toNat_natCast, hd, Option.bind_some, hr, hble, ibn, hset]
      unfold nextV
      have hest := nx1' hb (hv.at (decV b vs (m.Entries.getD i noE) (xs.getD i 0)).Car) (decV b vs (m.Entries.getD i noE) (xs.getD i 0)).Car (m.Entries.getD i noE).Floor (m.Entries.getD i noE).Dir
      unfold estP nd' at hest
      cases hne : ((decV b vs (m.Entries.getD i noE) (xs.getD i 0)).Car != (m.Entries.getD i noE).Car) with
      | false =>
        simp only [cond_false, Option.bind_some, Bool.false_and, List.append_assoc, List.singleton_append, w]
        rfl
      | true =>
        simp only [cond_true, Option.bind_some, Bool.true_and]
        by_cases hge : 0 ≤ (decV b vs (m.Entries.getD i noE) (xs.getD i 0)).Car
        · have ibc : inB (decV b vs (m.Entries.getD i noE) (xs.getD i 0)).Car vs.length = true := nc' hge hin.2
          have ibc' : inB (decV b vs (m.Entries.getD i noE) (xs.getD i 0)).Car b.Cars.length = true := nc' hge (by omega)
          rw [decide_eq_true hge]
          simp only [cond_true, ibc, hest, Option.bind_some, ibc', ibn2, Int.toNat_natCast, hset2, List.append_assoc, List.singleton_append, w]
          rfl
        · rw [decide_eq_false hge]
          simp only [cond_false, List.append_assoc, List.singleton_append, w]
          rfl
    · rw [nla' k (i + 1) _ (N ++ [_]) (by omega) (by simp; omega) (by rw [List.length_append]; omega)]
      simp only [planR, planN, List.append_assoc, List.singleton_append]
end
end Go.Ovl
