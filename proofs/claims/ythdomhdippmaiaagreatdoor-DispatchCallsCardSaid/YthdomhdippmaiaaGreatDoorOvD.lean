/- How far a car goes (layer 21): the program's way by the highest and the lowest floor. -/
import Derived.Test.YthdomhdippmaiaaGreatDoorOvC
import Derived.Test.YthdomhdippmaiaaGreatDoorOvA
namespace Go.Ovl
open Go Go.Ab
set_option maxRecDepth 100000
theorem nk7' {f g : Int} (h : g ≤ f) : distF f g = f - g := by
  unfold distF
  rw [decide_eq_false (by omega)]; rfl
theorem nld' {f g : Int} (h : f ≤ g) : distF f g = g - f := by
  unfold distF
  by_cases e : f - g < g - f
  · rw [decide_eq_true e]; rfl
  · rw [decide_eq_false e]; simp only [cond_false]; omega
theorem w_nil {fr fo : Nat} (h1 : fr < 100) (h2 : fo < 100) : ns' [] (fr : Int) (fo : Int) = some ((distF fo fr, ()), (((fr : Int), ()), ((fo : Int), ()), ())) := by
  rw [nki' (l := []) (by simp) (by simp) (by omega) (by omega)]
  simp only [List.nil_append, wayF, Int.zero_add]
theorem w_one {a fr fo : Nat} (h : a < 100) (h1 : fr < 100) (h2 : fo < 100) : ns' [(a : Int)] (fr : Int) (fo : Int) = some ((distF a fr + distF fo a, ()), (((fr : Int), ()), ((fo : Int), ()), ())) := by
  rw [nki' (l := [(a : Int)]) (by simp; omega) (by simp) (by omega) (by omega)]
  simp only [List.cons_append, List.nil_append, wayF, Int.zero_add]
theorem w_two {a b fr fo : Nat} (h : a < 100) (h' : b < 100) (h1 : fr < 100) (h2 : fo < 100) : ns' [(a : Int), (b : Int)] (fr : Int) (fo : Int) = some ((distF a fr + distF b a + distF fo b, ()), (((fr : Int), ()), ((fo : Int), ()), ())) := by
  rw [nki' (l := [(a : Int), (b : Int)]) (by simp; omega) (by simp) (by omega) (by omega)]
  simp only [List.cons_append, List.nil_append, wayF, Int.zero_add]
theorem n26' {lo hi fr fo : Nat} (b1 : lo ≤ fr) (b2 : lo ≤ fo) (b3 : fr ≤ hi) (b4 : fo ≤ hi) (b5 : hi < 8) {sweep dir : Int} (hsw : sweep = 0 ∨ sweep = 1 ∨ sweep = 2) (hdir : dir = 1 ∨ dir = 2) :
    (
      Option.bind (bif (sweep == (1 : Int)) then
            bif (decide ((fr : Int) ≤ (fo : Int))) then
              some ((sweep, dir, (lo : Int), (hi : Int), (), true, ()), (((fr : Int), ()), ((fo : Int), ()), ()))
            else
              bif (sweep == (2 : Int)) then
                some ((sweep, dir, (lo : Int), (hi : Int), (), (decide ((fo : Int) ≤ (fr : Int))), ()), (((fr : Int), ()), ((fo : Int), ()), ()))
              else
                some ((sweep, dir, (lo : Int), (hi : Int), (), false, ()), (((fr : Int), ()), ((fo : Int), ()), ()))
          else
            bif (sweep == (2 : Int)) then
              some ((sweep, dir, (lo : Int), (hi : Int), (), (decide ((fo : Int) ≤ (fr : Int))), ()), (((fr : Int), ()), ((fo : Int), ()), ()))
            else
              some ((sweep, dir, (lo : Int), (hi : Int), (), false, ()), (((fr : Int), ()), ((fo : Int), ()), ()))) fun y6 =>
      Option.bind (bif (y6.1.1 == (0 : Int)) then
            some ((y6.1.1, y6.1.2.1, y6.1.2.2.1, y6.1.2.2.2.1, (), true, ()), ((y6.2.1.1, ()), (y6.2.2.1.1, ()), ()))
          else
            bif (y6.1.1 == y6.1.2.1) then
              some ((y6.1.1, y6.1.2.1, y6.1.2.2.1, y6.1.2.2.2.1, (), y6.1.2.2.2.2.2.1, ()), ((y6.2.1.1, ()), (y6.2.2.1.1, ()), ()))
            else
              some ((y6.1.1, y6.1.2.1, y6.1.2.2.1, y6.1.2.2.2.1, (), false, ()), ((y6.2.1.1, ()), (y6.2.2.1.1, ()), ()))) fun y7 =>
      bif y7.1.2.2.2.2.2.1 then
        (ns' [] y7.2.1.1 y7.2.2.1.1).bind fun y8 =>
        some ((y8.1.1, ()), ())
      else
        Option.bind (bif (y7.1.1 != y7.1.2.1) then
              some ((y7.1.1, y7.1.2.1, y7.1.2.2.1, y7.1.2.2.2.1, (), (y7.1.1 == (1 : Int)), ()), ((y7.2.1.1, ()), (y7.2.2.1.1, ()), ()))
            else
              some ((y7.1.1, y7.1.2.1, y7.1.2.2.1, y7.1.2.2.2.1, (), false, ()), ((y7.2.1.1, ()), (y7.2.2.1.1, ()), ()))) fun y9 =>
        bif y9.1.2.2.2.2.2.1 then
          (ns' [y9.1.2.2.2.1] y9.2.1.1 y9.2.2.1.1).bind fun y10 =>
          some ((y10.1.1, ()), ())
        else
          bif (y9.1.1 != y9.1.2.1) then
            (ns' [y9.1.2.2.1] y9.2.1.1 y9.2.2.1.1).bind fun y11 =>
            some ((y11.1.1, ()), ())
          else
            bif (y9.1.1 == (1 : Int)) then
              (ns' [y9.1.2.2.2.1, y9.1.2.2.1] y9.2.1.1 y9.2.2.1.1).bind fun y12 =>
              some ((y12.1.1, ()), ())
            else
              (ns' [y9.1.2.2.1, y9.1.2.2.2.1] y9.2.1.1 y9.2.2.1.1).bind fun y13 =>
              some ((y13.1.1, ()), ())) = some ((pathV sweep dir fr fo lo hi, ()), ()) := by
  have fin : ∀ {x y : Int}, x = y → (some ((x, ()), ()) : Option ((Int × Unit) × Unit)) = some ((y, ()), ()) := fun h => by rw [h]
  have e1 : distF (fo : Int) fr = bif decide ((fr : Int) - fo < fo - fr) then (fo : Int) - fr else fr - fo := by
    unfold distF
    by_cases g : (fo : Int) - fr < fr - fo
    · rw [decide_eq_true g, decide_eq_false (by omega)]; rfl
    · rw [decide_eq_false g]; by_cases g' : (fr : Int) - fo < fo - fr
      · rw [decide_eq_true g']; rfl
      · rw [decide_eq_false g']; simp only [cond_false]; omega
  have W0 := w_nil (fr := fr) (fo := fo) (by omega) (by omega)
  have W1 := w_one (a := hi) (fr := fr) (fo := fo) (by omega) (by omega) (by omega)
  have W2 := w_one (a := lo) (fr := fr) (fo := fo) (by omega) (by omega) (by omega)
  have W3 := w_two (a := hi) (b := lo) (fr := fr) (fo := fo) (by omega) (by omega) (by omega) (by omega)
  have W4 := w_two (a := lo) (b := hi) (fr := fr) (fo := fo) (by omega) (by omega) (by omega) (by omega)
  rw [nk7' (f := hi) (g := fr) (by omega), nld' (f := fo) (g := hi) (by omega)] at W1
  rw [nld' (f := lo) (g := fr) (by omega), nk7' (f := fo) (g := lo) (by omega)] at W2
  rw [nk7' (f := hi) (g := fr) (by omega), nld' (f := lo) (g := hi) (by omega), nk7' (f := fo) (g := lo) (by omega)] at W3
  rw [nld' (f := lo) (g := fr) (by omega), nk7' (f := hi) (g := lo) (by omega), nld' (f := fo) (g := hi) (by omega)] at W4
  rcases hsw with rfl | rfl | rfl
  · rw [show ((0 : Int) == 1) = false from rfl, show ((0 : Int) == 2) = false from rfl]
    simp only [Option.bind_some, cond_true, cond_false, beq_self_eq_true, W0, pathV, e1]
  · rw [show ((1 : Int) == 1) = true from rfl, show ((1 : Int) == 2) = false from rfl]
    rcases hdir with rfl | rfl
    · by_cases g : (fr : Int) ≤ fo
      · simp only [Option.bind_some, cond_true, cond_false, decide_eq_true g, show ((1 : Int) == 0) = false from rfl, show ((1 : Int) == 1) = true from rfl, W0, pathV]
        rw [nk7' g]
      · simp only [Option.bind_some, cond_true, cond_false, decide_eq_false g, show ((1 : Int) == 0) = false from rfl, show ((1 : Int) == 1) = true from rfl, bne, Bool.not_true, W3, pathV]
        refine fin ?_; omega
    · cases hg : decide ((fr : Int) ≤ fo) <;>
        (simp only [Option.bind_some, cond_true, cond_false, show ((1 : Int) == 0) = false from rfl, show ((1 : Int) == 1) = true from rfl, show ((1 : Int) == 2) = false from rfl, show ((2 : Int) == 1) = false from rfl, bne, Bool.not_false, W1, pathV]; refine fin ?_; omega)
  · rw [show ((2 : Int) == 1) = false from rfl, show ((2 : Int) == 2) = true from rfl]
    rcases hdir with rfl | rfl
    · cases hg : decide ((fo : Int) ≤ fr) <;>
        (simp only [Option.bind_some, cond_true, cond_false, show ((2 : Int) == 0) = false from rfl, show ((2 : Int) == 1) = false from rfl, show ((1 : Int) == 2) = false from rfl, bne, Bool.not_false, W2, pathV]; refine fin ?_; omega)
    · by_cases g : (fo : Int) ≤ fr
      · simp only [Option.bind_some, cond_true, cond_false, decide_eq_true g, show ((2 : Int) == 0) = false from rfl, show ((2 : Int) == 1) = false from rfl, show ((2 : Int) == 2) = true from rfl, W0, pathV]
        rw [nld' g]
      · simp only [Option.bind_some, cond_true, cond_false, decide_eq_false g, show ((2 : Int) == 0) = false from rfl, show ((2 : Int) == 1) = false from rfl, show ((2 : Int) == 2) = true from rfl, bne, Bool.not_true, W4, pathV]
        refine fin ?_; omega
end Go.Ovl
namespace Go.Ovl
open Go Go.Ab
set_option maxRecDepth 100000
set_option maxHeartbeats 1000000 in
theorem n0d' {fl : Nat} (h2 : 2 ≤ fl) (hfl : fl ≤ 8) {car up down : Int} (hc : u32r car) (hu : u32r up) (hd : u32r down) {fr fo : Nat} (hr : fr < fl) (ho : fo < fl) {sweep dir : Int} (hs : 0 ≤ sweep ∧ sweep ≤ 2) (hcall : nfv' fl fo dir = true) :
    ∃ lo hi : Nat, lo ≤ fr ∧ lo ≤ fo ∧ fr ≤ hi ∧ fo ≤ hi ∧ hi < 8 ∧ ndq' (fl : Int) fr sweep car up down fo dir = some ((pathV sweep dir fr fo lo hi, ()), ()) ∧ nec' (fl : Int) fr sweep car up down fo dir = some ((pathV sweep dir fr fo lo hi, ()), ()) := by
  obtain ⟨a, u, d, hcnt, c⟩ := nkp' hfl car up down
  obtain ⟨S, s1, s2, s3, s4⟩ := n52' hfl c hr ho
  obtain ⟨lo, t1, t2, t3, t4⟩ := tz_eq s1 s2
  obtain ⟨hi, l1, l2, l3, l4⟩ := n5y' s1 s2
  have hl := n6b' (p := fun i => a.testBit i || (u.testBit i || d.testBit i)) hr ho s3 l3 l4 t3 t4
  have hlo : ∀ i, S.testBit i = true → lo ≤ i := fun i h => by
    rcases Nat.lt_or_ge i lo with h' | h'
    · rw [t4 i h'] at h; cases h
    · exact h'
  have hhi : ∀ i, S.testBit i = true → i ≤ hi := fun i h => by
    rcases Nat.lt_or_ge hi i with h' | h'
    · rw [l4 i h'] at h; cases h
    · exact h'
  have mfr : S.testBit fr = true := by rw [s3]; simp
  have mfo : S.testBit fo = true := by rw [s3]; simp
  have b1 := hlo _ mfr
  have b2 := hlo _ mfo
  have b3 := hhi _ mfr
  have b4 := hhi _ mfo
  have hdir : dir = 1 ∨ dir = 2 := by
    unfold nfv' at hcall
    simp only [Bool.or_eq_true, Bool.and_eq_true, beq_iff_eq] at hcall
    omega
  have hsw : sweep = 0 ∨ sweep = 1 ∨ sweep = 2 := by omega
  have x0 : IntKind.i64.wrap (((hi : Nat) : Int) - ((fr : Nat) : Int)) = ((hi : Nat) : Int) - ((fr : Nat) : Int) := nb' (by omega) (by omega)
  have x1 : IntKind.i64.wrap (((hi : Nat) : Int) - ((fr : Nat) : Int) + ((hi : Nat) : Int)) = ((hi : Nat) : Int) - ((fr : Nat) : Int) + ((hi : Nat) : Int) := nb' (by omega) (by omega)
  have x2 : IntKind.i64.wrap (((hi : Nat) : Int) - ((fr : Nat) : Int) + ((hi : Nat) : Int) - ((fo : Nat) : Int)) = ((hi : Nat) : Int) - ((fr : Nat) : Int) + ((hi : Nat) : Int) - ((fo : Nat) : Int) := nb' (by omega) (by omega)
  have x3 : IntKind.i64.wrap (((hi : Nat) : Int) - ((fr : Nat) : Int) + ((hi : Nat) : Int) - ((lo : Nat) : Int)) = ((hi : Nat) : Int) - ((fr : Nat) : Int) + ((hi : Nat) : Int) - ((lo : Nat) : Int) := nb' (by omega) (by omega)
  have x4 : IntKind.i64.wrap (((hi : Nat) : Int) - ((fr : Nat) : Int) + ((hi : Nat) : Int) - ((lo : Nat) : Int) + ((fo : Nat) : Int)) = ((hi : Nat) : Int) - ((fr : Nat) : Int) + ((hi : Nat) : Int) - ((lo : Nat) : Int) + ((fo : Nat) : Int) := nb' (by omega) (by omega)
  have x5 : IntKind.i64.wrap (((hi : Nat) : Int) - ((fr : Nat) : Int) + ((hi : Nat) : Int) - ((lo : Nat) : Int) + ((fo : Nat) : Int) - ((lo : Nat) : Int)) = ((hi : Nat) : Int) - ((fr : Nat) : Int) + ((hi : Nat) : Int) - ((lo : Nat) : Int) + ((fo : Nat) : Int) - ((lo : Nat) : Int) := nb' (by omega) (by omega)
  have x6 : IntKind.i64.wrap (((fr : Nat) : Int) - ((lo : Nat) : Int)) = ((fr : Nat) : Int) - ((lo : Nat) : Int) := nb' (by omega) (by omega)
  have x7 : IntKind.i64.wrap (((fr : Nat) : Int) - ((lo : Nat) : Int) + ((fo : Nat) : Int)) = ((fr : Nat) : Int) - ((lo : Nat) : Int) + ((fo : Nat) : Int) := nb' (by omega) (by omega)
  have x8 : IntKind.i64.wrap (((fr : Nat) : Int) - ((lo : Nat) : Int) + ((fo : Nat) : Int) - ((lo : Nat) : Int)) = ((fr : Nat) : Int) - ((lo : Nat) : Int) + ((fo : Nat) : Int) - ((lo : Nat) : Int) := nb' (by omega) (by omega)
  have x9 : IntKind.i64.wrap (((fr : Nat) : Int) - ((lo : Nat) : Int) + ((hi : Nat) : Int)) = ((fr : Nat) : Int) - ((lo : Nat) : Int) + ((hi : Nat) : Int) := nb' (by omega) (by omega)
  have x10 : IntKind.i64.wrap (((fr : Nat) : Int) - ((lo : Nat) : Int) + ((hi : Nat) : Int) - ((lo : Nat) : Int)) = ((fr : Nat) : Int) - ((lo : Nat) : Int) + ((hi : Nat) : Int) - ((lo : Nat) : Int) := nb' (by omega) (by omega)
  have x11 : IntKind.i64.wrap (((fr : Nat) : Int) - ((lo : Nat) : Int) + ((hi : Nat) : Int) - ((lo : Nat) : Int) + ((hi : Nat) : Int)) = ((fr : Nat) : Int) - ((lo : Nat) : Int) + ((hi : Nat) : Int) - ((lo : Nat) : Int) + ((hi : Nat) : Int) := nb' (by omega) (by omega)
  have x12 : IntKind.i64.wrap (((fr : Nat) : Int) - ((lo : Nat) : Int) + ((hi : Nat) : Int) - ((lo : Nat) : Int) + ((hi : Nat) : Int) - ((fo : Nat) : Int)) = ((fr : Nat) : Int) - ((lo : Nat) : Int) + ((hi : Nat) : Int) - ((lo : Nat) : Int) + ((hi : Nat) : Int) - ((fo : Nat) : Int) := nb' (by omega) (by omega)
  have x13 : IntKind.i64.wrap (((fr : Nat) : Int) - ((fo : Nat) : Int)) = ((fr : Nat) : Int) - ((fo : Nat) : Int) := nb' (by omega) (by omega)
  have x14 : IntKind.i64.wrap (((fo : Nat) : Int) - ((fr : Nat) : Int)) = ((fo : Nat) : Int) - ((fr : Nat) : Int) := nb' (by omega) (by omega)
  refine ⟨lo, hi, b1, b2, b3, b4, l2, ?_, ?_⟩
  · unfold ndq'
    rw [nha' ⟨by omega, by omega⟩, nl2' ⟨by omega, by omega⟩, hcall, hcnt]
    rw [decide_eq_false (show ¬ ((fr : Int) < 0) by omega), decide_eq_false (show ¬ ((fl : Int) ≤ fr) by omega), decide_eq_false (show ¬ (sweep < 0) by omega), decide_eq_false (show ¬ (2 < sweep) by omega)]
    have tn1 : Int.toNat (fr : Int) = fr := by omega
    have tn2 : Int.toNat (fo : Int) = fo := by omega
    have p1 : bv (IntKind.u32.wrap (1 * 2 ^ min fr (IntKind.bits .u32))) = BitVec.twoPow 32 fr := by rw [nvq', if_pos (by omega)]
    have p2 : bv (IntKind.u32.wrap (1 * 2 ^ min fo (IntKind.bits .u32))) = BitVec.twoPow 32 fo := by rw [nvq', if_pos (by omega)]
    have z1 : decide ((0 : Int) ≤ (fr : Int)) = true := by simp
    have z2 : decide ((0 : Int) ≤ (fo : Int)) = true := by simp
    have lw : IntKind.i64.wrap (((hi + 1 : Nat) : Int) - 1) = (hi : Int) := by rw [nb' (by omega) (by omega)]; omega
    simp only [Option.bind_some, Bool.not_true, cond_false, cond_true, z1, z2, tn1, tn2, w_or, bv_vb, p1, p2, s4, t1, l1, lw]
    exact n26' b1 b2 b3 b4 l2 hsw hdir
  · unfold nec'
    rw [decide_eq_false (show ¬ ((fl : Int) < 2) by omega), decide_eq_false (show ¬ ((32 : Int) < fl) by omega), decide_eq_false (show ¬ ((fr : Int) < 0) by omega), decide_eq_false (show ¬ ((fl : Int) ≤ fr) by omega), decide_eq_false (show ¬ (sweep < 0) by omega), decide_eq_false (show ¬ (2 < sweep) by omega), refG ⟨by omega, by omega⟩, hcall]
    simp only [cond_false, Option.bind_some, Bool.not_true]
    have hloop := nuu' h2 hfl hc hu hd c fr sweep fo dir (bif decide ((fr : Int) < fo) then (fo : Int) else fr, bif decide ((fo : Int) < fr) then (fo : Int) else fr)
    rw [hl] at hloop
    simp only at hloop
    rw [hloop]
    rcases hsw with rfl | rfl | rfl
    · unfold pathV
      simp only [Option.bind_some, beq_self_eq_true, cond_true, x13, x14]
    · rcases hdir with rfl | rfl
      · by_cases g : (fr : Int) ≤ fo
        · unfold pathV
          simp only [Option.bind_some, beq_self_eq_true, cond_true, decide_eq_true g, show ((1 : Int) == 0) = false from rfl, cond_false, x0, x1, x2, x3, x4, x5, x13, x14]
        · unfold pathV
          simp only [Option.bind_some, beq_self_eq_true, cond_true, decide_eq_false g, show ((1 : Int) == 0) = false from rfl, show ((1 : Int) == 2) = false from rfl, cond_false, x0, x1, x2, x3, x4, x5, x6, x7, x8, x9, x10, x11, x12, x13, x14]
      · unfold pathV
        simp only [Option.bind_some, beq_self_eq_true, cond_true, show ((1 : Int) == 0) = false from rfl, show ((2 : Int) == 1) = false from rfl, cond_false, x0, x1, x2, x3, x4, x5, x6, x7, x8, x9, x10, x11, x12, x13, x14]
    · rcases hdir with rfl | rfl
      · unfold pathV
        simp only [Option.bind_some, beq_self_eq_true, cond_true, show ((2 : Int) == 0) = false from rfl, show ((2 : Int) == 1) = false from rfl, show ((1 : Int) == 2) = false from rfl, cond_false, x0, x1, x2, x3, x4, x5, x6, x7, x8, x9, x10, x11, x12, x13, x14]
      · by_cases g : (fo : Int) ≤ fr
        · unfold pathV
          simp only [Option.bind_some, beq_self_eq_true, cond_true, decide_eq_true g, show ((2 : Int) == 0) = false from rfl, show ((2 : Int) == 1) = false from rfl, cond_false, x0, x1, x2, x3, x4, x5, x6, x7, x8, x9, x10, x11, x12, x13, x14]
        · unfold pathV
          simp only [Option.bind_some, beq_self_eq_true, cond_true, decide_eq_false g, show ((2 : Int) == 0) = false from rfl, show ((2 : Int) == 1) = false from rfl, cond_false, x0, x1, x2, x3, x4, x5, x6, x7, x8, x9, x10, x11, x12, x13, x14]
end Go.Ovl
namespace Go.Ovl
open Go Go.Ab
set_option maxRecDepth 100000
theorem n4m' {fl : Nat} (h2 : 2 ≤ fl) (hfl : fl ≤ 8) {car up down : Int} (hc : u32r car) (hu : u32r up) (hd : u32r down) (from_ sweep floor dir : Int) :
    ∃ n : Int, ndq' (fl : Int) from_ sweep car up down floor dir = some ((n, ()), ()) ∧ nec' (fl : Int) from_ sweep car up down floor dir = some ((n, ()), ()) ∧ (from_ < 0 → n = -1) := by
  by_cases h : 0 ≤ from_ ∧ from_ < fl ∧ 0 ≤ sweep ∧ sweep ≤ 2 ∧ nfv' fl floor dir = true
  · obtain ⟨g1, g2, g3, g4, g5⟩ := h
    have hcall := g5
    unfold nfv' at g5
    simp only [Bool.or_eq_true, Bool.and_eq_true, decide_eq_true_eq, beq_iff_eq] at g5
    have e1 : (from_.toNat : Int) = from_ := by omega
    have e2 : (floor.toNat : Int) = floor := by omega
    rw [← e2] at hcall
    obtain ⟨lo, hi, b1, b2, b3, b4, b5, q1, q2⟩ := n0d' h2 hfl hc hu hd (fr := from_.toNat) (fo := floor.toNat) (by omega) (by omega) ⟨g3, g4⟩ hcall
    rw [e1, e2] at q1 q2
    exact ⟨_, q1, q2, by omega⟩
  · obtain ⟨q1, q2⟩ := nz6' h2 hfl car up down from_ sweep floor dir h
    exact ⟨-1, q1, q2, fun _ => rfl⟩
def sB (s : Nat) : Nat → Nat → Nat
  | 0, _ => 0
  | m + 1, i => (s.testBit i).toNat + sB s m (i + 1)
theorem sB_le (s : Nat) : ∀ m i, sB s m i ≤ m
  | 0, _ => Nat.le_refl _
  | m + 1, i => by
    have := sB_le s m (i + 1)
    have h : (s.testBit i).toNat ≤ 1 := by cases s.testBit i <;> decide
    show _ + _ ≤ _
    omega
theorem n51' : ((List.range 256).all fun s => (List.range 9).all fun fl => Nat.beq (sB s fl 0) (ones8 s) || (List.range 8).any fun i => Nat.ble fl i && s.testBit i) = true := by kernel_rfl
theorem nsv' {s fl : Nat} (h : s < 256) (hfl : fl ≤ 8) (hz : ∀ i, fl ≤ i → s.testBit i = false) : sB s fl 0 = ones8 s := by
  have := List.all_eq_true.1 (List.all_eq_true.1 n51' s (List.mem_range.2 h)) fl (List.mem_range.2 (by omega))
  rw [Bool.or_eq_true] at this
  rcases this with h | h
  · exact Nat.eq_of_beq_eq_true h
  · obtain ⟨i, _, hi⟩ := List.any_eq_true.1 h
    rw [Bool.and_eq_true] at hi
    rw [hz i (Nat.le_of_ble_eq_true hi.1)] at hi
    cases hi.2
theorem nv1' {fl : Nat} (h2 : 2 ≤ fl) (hfl : fl ≤ 8) {car up down : Int} (hc : u32r car) (hu : u32r up) (hd : u32r down) {a u d : Nat} (c : Cnt fl car up down a u d) {f : Nat} (hf : f < fl) {n : Nat} (hn : n < 100) :
    nh1' (((fl : Int), (), (n : Int), (f : Int), (0 : Int), ()), ((car, up, down, ()), ())) = some (((fl : Int), (), (((n + (a.testBit f).toNat + (u.testBit f).toNat + (d.testBit f).toNat : Nat)) : Int), (f : Int), ()), ((car, up, down, ()), ())) := by
  obtain ⟨k0, k1, k2⟩ := np2' h2 hfl hc hu hd c hf
  have w : ∀ k : Nat, k < 200 → IntKind.i64.wrap ((k : Int) + 1) = ((k + 1 : Nat) : Int) := fun k hk => by rw [nb' (by omega) (by omega)]; omega
  have st : ∀ (p : Bool) (k : Nat), k < 200 → (bif p then IntKind.i64.wrap ((k : Int) + 1) else (k : Int)) = ((k + p.toNat : Nat) : Int) := fun p k hk => by
    cases p
    · rfl
    · exact w k hk
  have r : ∀ (k : Nat) (p : Bool) (j : Int), j < 3 → ∀ j', IntKind.i64.wrap (j + 1) = j' → k < 200 → nd5' fl car up down f j = some ((p, ()), ()) → nf8' fl k f j car up down = some (.inl (((fl : Int), (), ((k + p.toNat : Nat) : Int), (f : Int), j', ()), ((car, up, down, ()), ()))) := fun k p j hj j' hw hk h => by
    unfold nf8'
    rw [decide_eq_true hj, h, hw, ← st p k hk]
    cases p <;> rfl
  refine nv' (f := 4) ?_ (by omega)
  refine (ny' (r n _ 0 (by omega) 1 (by decide) (by omega) k0)).trans ?_
  have a1 : (a.testBit f).toNat ≤ 1 := by cases a.testBit f <;> decide
  have a2 : (u.testBit f).toNat ≤ 1 := by cases u.testBit f <;> decide
  refine (ny' (r _ _ 1 (by omega) 2 (by decide) (by omega) k1)).trans ?_
  refine (ny' (r _ _ 2 (by omega) 3 (by decide) (by omega) k2)).trans ?_
  refine nr' ?_
  show nf8' (fl : Int) _ (f : Int) 3 car up down = _
  unfold nf8'
  rfl
theorem nm3' {fl : Nat} (h2 : 2 ≤ fl) (hfl : fl ≤ 8) {car up down : Int} (hc : u32r car) (hu : u32r up) (hd : u32r down) {a u d : Nat} (c : Cnt fl car up down a u d) :
    ∀ (m i n : Nat), i + m = fl → n + 3 * m < 100 → iter (fun x => ner' x.1.1 x.1.2.2.1 x.1.2.2.2.1 x.2.1.1 x.2.1.2.1 x.2.1.2.2.1) (m + 1) (((fl : Int), (), (n : Int), (i : Int), ()), ((car, up, down, ()), ())) = some ((((n + sB a m i + sB u m i + sB d m i : Nat) : Int), ()), ())
  | 0, i, n, hi, hn => by
    refine nr' ?_
    show ner' (fl : Int) n i car up down = _
    unfold ner'
    have e : decide ((i : Int) < (fl : Int)) = false := by simp; omega
    rw [e]; rfl
  | m + 1, i, n, hi, hn => by
    have e : decide ((i : Int) < (fl : Int)) = true := by simp; omega
    have w : IntKind.i64.wrap ((i : Int) + 1) = ((i + 1 : Nat) : Int) := by rw [nb' (by omega) (by omega)]; omega
    have a1 : (a.testBit i).toNat ≤ 1 := by cases a.testBit i <;> decide
    have a2 : (u.testBit i).toNat ≤ 1 := by cases u.testBit i <;> decide
    have a3 : (d.testBit i).toNat ≤ 1 := by cases d.testBit i <;> decide
    refine (ny' (x' := (((fl : Int), (), ((n + (a.testBit i).toNat + (u.testBit i).toNat + (d.testBit i).toNat : Nat) : Int), ((i + 1 : Nat) : Int), ()), ((car, up, down, ()), ()))) ?_).trans ?_
    · show ner' (fl : Int) n i car up down = _
      unfold ner'
      rw [e, nv1' h2 hfl hc hu hd c (show i < fl by omega) (show n < 100 by omega)]
      simp only [cond_true, Option.bind_some, w]
    · rw [nm3' h2 hfl hc hu hd c m (i + 1) _ (by omega) (by omega)]
      have : n + (a.testBit i).toNat + (u.testBit i).toNat + (d.testBit i).toNat + sB a m (i + 1) + sB u m (i + 1) + sB d m (i + 1) = n + sB a (m + 1) i + sB u (m + 1) i + sB d (m + 1) i := by
        simp only [sB]; omega
      rw [this]
theorem n37' {fl : Nat} (h2 : 2 ≤ fl) (hfl : fl ≤ 8) {car up down : Int} (hc : u32r car) (hu : u32r up) (hd : u32r down) :
    ∃ n : Nat, n ≤ 24 ∧ nfx' (fl : Int) car up down = some (((n : Int), ()), ()) ∧ ngm' (fl : Int) car up down = some (((n : Int), ()), ()) := by
  obtain ⟨a, u, d, hcnt, c⟩ := nkp' hfl car up down
  have ea := nsv' c.la hfl fun i hi => (c.hi i hi).1
  have eu := nsv' c.lu hfl fun i hi => (c.hi i hi).2.1
  have ed := nsv' c.ld hfl fun i hi => (c.hi i hi).2.2
  have la := sB_le a fl 0
  have lu := sB_le u fl 0
  have ld := sB_le d fl 0
  refine ⟨sB a fl 0 + sB u fl 0 + sB d fl 0, by omega, ?_, ?_⟩
  · unfold nfx' nkh'
    rw [nha' ⟨by omega, by omega⟩, hcnt]
    simp only [Option.bind_some, Bool.not_true, cond_false, ns8' c.la, ns8' c.lu, ns8' c.ld]
    rw [← ea, ← eu, ← ed]
    rw [nb' (n := ((sB u fl 0 : Nat) : Int) + ((sB d fl 0 : Nat) : Int)) (by omega) (by omega), nb' (by omega) (by omega)]
    have : ((sB a fl 0 : Nat) : Int) + (((sB u fl 0 : Nat) : Int) + ((sB d fl 0 : Nat) : Int)) = ((sB a fl 0 + sB u fl 0 + sB d fl 0 : Nat) : Int) := by omega
    rw [this]
  · unfold ngm'
    rw [decide_eq_false (show ¬ ((fl : Int) < 2) by omega), decide_eq_false (show ¬ ((32 : Int) < fl) by omega)]
    have hl := nv' (nm3' h2 hfl hc hu hd c fl 0 0 (by omega) (by omega)) (by omega)
    have hl' : nhw' (((fl : Int), (), (0 : Int), (0 : Int), ()), ((car, up, down, ()), ())) = _ := hl
    rw [hl']
    simp only [cond_false, Option.bind_some, Nat.zero_add]
end Go.Ovl
namespace Go.Ovl
open Go Go.Ab
set_option maxRecDepth 100000
def View.none : View := View.mk false false false false 0 0 0 0 0 0 0 0
def Car.none : Car := Car.mk 0 0 0 0 0 0 0 0 0
structure View.ok (v : View) : Prop where
  c : u32r v.Stops_Car
  u : u32r v.Stops_Hall_Up
  d : u32r v.Stops_Hall_Down
noncomputable def estP (b : Bldg) (car : Int) (v : View) (floor dir : Int) : Option ((Int × Unit) × Unit) :=
  nc1' b.Floors b.Debounce b.Room b.Park b.Empty b.Full b.Over b.Cars car v.Ready v.Serving v.Legacy v.Lost v.Floor v.Dir v.Load v.Shows_Up v.Shows_Down v.Stops_Car v.Stops_Hall_Up v.Stops_Hall_Down floor dir
noncomputable def estR (b : Bldg) (car : Int) (v : View) (floor dir : Int) : Option ((Int × Unit) × Unit) :=
  nfq' b.Floors b.Debounce b.Room b.Park b.Empty b.Full b.Over b.Cars car v.Ready v.Serving v.Legacy v.Lost v.Floor v.Dir v.Load v.Shows_Up v.Shows_Down v.Stops_Car v.Stops_Hall_Up v.Stops_Hall_Down floor dir
noncomputable def estV (b : Bldg) (car : Int) (v : View) (floor dir : Int) : Int := match estR b car v floor dir with | some r => r.1.1 | none => 0
theorem n5v' {b : Bldg} (hb : b.small) {v : View} (hv : v.ok) (car floor dir : Int) : ∃ n : Int, estP b car v floor dir = some ((n, ()), ()) ∧ estR b car v floor dir = some ((n, ()), ()) := by
  unfold estP estR nc1' nfq'
  rw [ncc', nfy']
  simp only [Option.bind_some]
  cases b.code != 0 with
  | true => exact ⟨_, rfl, rfl⟩
  | false =>
    simp only [cond_false]
    by_cases g1 : car < 0
    · rw [decide_eq_true g1]; exact ⟨_, rfl, rfl⟩
    rw [decide_eq_false g1]
    simp only [cond_false]
    by_cases g2 : (b.Cars.length : Int) ≤ car
    · rw [decide_eq_true g2]; exact ⟨_, rfl, rfl⟩
    rw [decide_eq_false g2]
    simp only [cond_false]
    have ib : inB car b.Cars.length = true := nc' (by omega) (by omega)
    have fl : (b.Floors.toNat : Int) = b.Floors := by have := hb.lo; omega
    have key : ∀ sw : Int, ∃ n : Int, ndq' b.Floors v.Floor sw v.Stops_Car v.Stops_Hall_Up v.Stops_Hall_Down floor dir = some ((n, ()), ()) ∧ nec' b.Floors v.Floor sw v.Stops_Car v.Stops_Hall_Up v.Stops_Hall_Down floor dir = some ((n, ()), ()) ∧ (v.Floor < 0 → n = -1) := fun sw => by
      have := n4m' (fl := b.Floors.toNat) (by have := hb.lo; omega) (by have := hb.hi; omega) hv.c hv.u hv.d v.Floor sw floor dir
      rw [fl] at this; exact this
    obtain ⟨k, _, c1, c2⟩ : ∃ n : Nat, n ≤ 24 ∧ nfx' b.Floors v.Stops_Car v.Stops_Hall_Up v.Stops_Hall_Down = some (((n : Int), ()), ()) ∧ ngm' b.Floors v.Stops_Car v.Stops_Hall_Up v.Stops_Hall_Down = some (((n : Int), ()), ()) := by
      have := n37' (fl := b.Floors.toNat) (by have := hb.lo; omega) (by have := hb.hi; omega) hv.c hv.u hv.d
      rw [fl] at this; exact this
    have fin : ∀ sw : Int, ∃ n : Int,
        ((ndq' b.Floors v.Floor sw v.Stops_Car v.Stops_Hall_Up v.Stops_Hall_Down floor dir).bind fun y3 => bif decide (y3.1.1 < 0) then some ((1000000, ()), ()) else
          bif inB car b.Cars.length then
            let z0 : Car := b.Cars.getD car.toNat (Car.mk 0 0 0 0 0 0 0 0 0)
            (nfx' b.Floors v.Stops_Car v.Stops_Hall_Up v.Stops_Hall_Down).bind fun y4 =>
            let z1 : Int := IntKind.i64.wrap (IntKind.i64.wrap (y3.1.1 * z0.Step) + IntKind.i64.wrap (y4.1.1 * IntKind.i64.wrap (IntKind.i64.wrap (2 * z0.Travel) + z0.Dwell)))
            some (((bif decide (1000000 < z1) then 1000000 else z1), ()), ())
          else none) = some ((n, ()), ()) ∧
        (bif decide (v.Floor < 0) then some ((1000000, ()), ()) else (nec' b.Floors v.Floor sw v.Stops_Car v.Stops_Hall_Up v.Stops_Hall_Down floor dir).bind fun y3 => bif decide (y3.1.1 < 0) then some ((1000000, ()), ()) else
          bif inB car b.Cars.length then
            let z0 : Car := b.Cars.getD car.toNat (Car.mk 0 0 0 0 0 0 0 0 0)
            (ngm' b.Floors v.Stops_Car v.Stops_Hall_Up v.Stops_Hall_Down).bind fun y4 =>
            let z1 : Int := IntKind.i64.wrap (IntKind.i64.wrap (y3.1.1 * z0.Step) + IntKind.i64.wrap (y4.1.1 * IntKind.i64.wrap (IntKind.i64.wrap (2 * z0.Travel) + z0.Dwell)))
            some (((bif decide (1000000 < z1) then 1000000 else z1), ()), ())
          else none) = some ((n, ()), ()) := fun sw => by
      obtain ⟨n, q1, q2, q3⟩ := key sw
      rw [q1, q2, c1, c2, ib]
      simp only [Option.bind_some, cond_true]
      by_cases g : v.Floor < 0
      · have := q3 g
        subst this
        rw [decide_eq_true g]
        exact ⟨_, rfl, rfl⟩
      · rw [decide_eq_false g]
        cases decide (n < 0) <;> exact ⟨_, rfl, rfl⟩
    cases v.Dir == 3 with
    | true =>
      obtain ⟨n, h1, h2⟩ := fin 0
      exact ⟨n, h1, by
        cases hd : decide (v.Floor < 0) with
        | true => rw [hd] at h2; exact h2
        | false => rw [hd] at h2; exact h2⟩
    | false =>
      obtain ⟨n, h1, h2⟩ := fin v.Dir
      exact ⟨n, h1, by
        cases hd : decide (v.Floor < 0) with
        | true => rw [hd] at h2; exact h2
        | false => rw [hd] at h2; exact h2⟩
theorem nyp' {b : Bldg} (hb : b.small) {v : View} (hv : v.ok) (car floor dir : Int) : estP b car v floor dir = some ((estV b car v floor dir, ()), ()) := by
  obtain ⟨n, h1, h⟩ := n5v' hb hv car floor dir
  rw [show estV b car v floor dir = n by unfold estV; rw [h]]; exact h1
end Go.Ovl
namespace Go.Ovl
open Go Go.Ab
set_option maxRecDepth 100000
def fullV (v : View) : Bool := v.Load == 3 || v.Load == 4
theorem ni6' (v : View) : nd3' v.Ready v.Serving v.Legacy v.Lost v.Floor v.Dir v.Load v.Shows_Up v.Shows_Down v.Stops_Car v.Stops_Hall_Up v.Stops_Hall_Down = some ((fullV v, ()), ()) := by
  unfold nd3' fullV
  cases v.Load == 3 <;> rfl
def betB (a b : Int × Int) : Bool := decide (a.1 < b.1) || (a.1 == b.1 && decide (a.2 < b.2))
theorem nl7' (a b : Int × Int) : ne1' a.1 a.2 b.1 b.2 = some ((betB a b, ()), ()) := by
  unfold ne1' betB
  by_cases h : a.1 = b.1
  · by_cases h' : a.2 = b.2
    · rw [h, h', beq_self_eq_true, beq_self_eq_true, decide_eq_false (by omega), decide_eq_false (by omega)]; rfl
    · rw [h, beq_self_eq_true, beq_f h', decide_eq_false (by omega)]; rfl
  · rw [beq_f h]
    cases decide (a.1 < b.1) <;> rfl
def nd' (vs : List View) (i : Int) : View := vs.getD i.toNat (View.mk false false false false 0 0 0 0 0 0 0 0)
def okViews (vs : List View) : Prop := ∀ v ∈ vs, v.ok
theorem View.ok_none : View.ok (View.mk false false false false 0 0 0 0 0 0 0 0) := ⟨⟨by decide, by decide⟩, ⟨by decide, by decide⟩, ⟨by decide, by decide⟩⟩
theorem okViews.at {vs : List View} (h : okViews vs) (i : Int) : (nd' vs i).ok := by
  unfold nd'
  rw [List.getD_eq_getElem?_getD]
  cases hq : vs[i.toNat]? with
  | none => exact View.ok_none
  | some v => exact h v (List.mem_of_getElem? hq)
noncomputable def rankV (b : Bldg) (vs : List View) (floor dir : Int) (car : Int) : Int × Int := ((bif fullV (nd' vs car) then 1 else 0), estV b car (nd' vs car) floor dir)
theorem nja' {b : Bldg} (hb : b.small) {vs : List View} (hv : okViews vs) {car : Int} (hc : 0 ≤ car ∧ car < vs.length) (floor dir : Int) :
    nev' b.Floors b.Debounce b.Room b.Park b.Empty b.Full b.Over b.Cars vs car floor dir = some (((), ()), (((rankV b vs floor dir car).1, (rankV b vs floor dir car).2, ()), ())) := by
  unfold nev'
  have e : nc1' b.Floors b.Debounce b.Room b.Park b.Empty b.Full b.Over b.Cars car (nd' vs car).Ready (nd' vs car).Serving (nd' vs car).Legacy (nd' vs car).Lost (nd' vs car).Floor (nd' vs car).Dir (nd' vs car).Load (nd' vs car).Shows_Up (nd' vs car).Shows_Down (nd' vs car).Stops_Car (nd' vs car).Stops_Hall_Up (nd' vs car).Stops_Hall_Down floor dir = _ := nyp' hb (hv.at car) car floor dir
  rw [nc' hc.1 hc.2]
  show (nc1' b.Floors b.Debounce b.Room b.Park b.Empty b.Full b.Over b.Cars car (nd' vs car).Ready (nd' vs car).Serving (nd' vs car).Legacy (nd' vs car).Lost (nd' vs car).Floor (nd' vs car).Dir (nd' vs car).Load (nd' vs car).Shows_Up (nd' vs car).Shows_Down (nd' vs car).Stops_Car (nd' vs car).Stops_Hall_Up (nd' vs car).Stops_Hall_Down floor dir).bind (fun y1 => (nd3' (nd' vs car).Ready (nd' vs car).Serving (nd' vs car).Legacy (nd' vs car).Lost (nd' vs car).Floor (nd' vs car).Dir (nd' vs car).Load (nd' vs car).Shows_Up (nd' vs car).Shows_Down (nd' vs car).Stops_Car (nd' vs car).Stops_Hall_Up (nd' vs car).Stops_Hall_Down).bind (fun y2 => bif y2.1.1 then some (((), ()), (((1 : Int), y1.1.1, ()), ())) else some (((), ()), (((0 : Int), y1.1.1, ()), ())))) = _
  rw [e, Option.bind_some, ni6', Option.bind_some]
  unfold rankV
  cases fullV (nd' vs car) <;> rfl
noncomputable def ng9' (b : Bldg) (vs : List View) (floor dir except : Int) (i best : Int) : Int :=
  bif !(nd' vs i).Ready || i == except then best else bif best == -1 || betB (rankV b vs floor dir i) (rankV b vs floor dir best) then i else best
noncomputable def bestF (b : Bldg) (vs : List View) (floor dir except : Int) : Nat → Nat → Int → Int
  | 0, _, best => best
  | m + 1, i, best => bestF b vs floor dir except m (i + 1) (ng9' b vs floor dir except i best)
noncomputable def nb6' (b : Bldg) (vs : List View) (floor dir except : Int) : Int :=
  bif b.code != 0 || (vs.length : Int) != (b.Cars.length : Int) then -1 else bestF b vs floor dir except vs.length 0 (-1)
def njz' (vs : List View) (best : Int) : Prop := best = -1 ∨ (0 ≤ best ∧ best < vs.length)
theorem np8' {b : Bldg} {vs : List View} {floor dir except : Int} {i : Nat} (hi : i < vs.length) {best : Int} (h : njz' vs best) : njz' vs (ng9' b vs floor dir except i best) := by
  unfold ng9'
  cases (!(nd' vs i).Ready || (i : Int) == except) with
  | true => exact h
  | false =>
    simp only [cond_false]
    cases (best == -1 || betB (rankV b vs floor dir i) (rankV b vs floor dir best)) with
    | true => exact .inr (by simp only [cond_true]; omega)
    | false => exact h
theorem nka' {b : Bldg} (hb : b.small) {vs : List View} (hv : okViews vs) (hl : vs.length ≤ 100) (floor dir except : Int) :
    ∀ (m i : Nat) (best l0 l1 : Int), i + m = vs.length → njz' vs best → (best ≠ -1 → (l0, l1) = rankV b vs floor dir best) →
      iter (fun x => nc7' x.1.1 x.1.2.1 x.1.2.2.1 x.1.2.2.2.1 x.1.2.2.2.2.2.1 x.1.2.2.2.2.2.2.2.1 x.1.2.2.2.2.2.2.2.2.1 x.1.2.2.2.2.2.2.2.2.2.1 x.2.1.1 x.2.1.2.1 x.2.1.2.2.1 x.2.1.2.2.2.1 x.2.1.2.2.2.2.1 x.2.1.2.2.2.2.2.1 x.2.1.2.2.2.2.2.2.1 x.2.1.2.2.2.2.2.2.2.1 x.2.2.1.1 x.2.2.1.2.1) (m + 1) ((vs, floor, dir, except, (), best, (), vs, (vs.length : Int), (i : Int), ()), (b.tup, (l0, l1, ()), ())) = some ((bestF b vs floor dir except m i best, ()), ())
  | 0, i, best, l0, l1, hi, hin, hr => by
    refine nr' ?_
    show nc7' vs floor dir except best vs (vs.length : Int) (i : Int) b.Floors b.Debounce b.Room b.Park b.Empty b.Full b.Over b.Cars l0 l1 = _
    unfold nc7'
    have e : decide ((i : Int) < (vs.length : Int)) = false := by simp; omega
    rw [e]; rfl
  | m + 1, i, best, l0, l1, hi, hin, hr => by
    have hi' : i < vs.length := by omega
    have e : decide ((i : Int) < (vs.length : Int)) = true := by simp; omega
    have ib : inB (i : Int) vs.length = true := nc' (by omega) (by omega)
    have w : IntKind.i64.wrap ((i : Int) + 1) = ((i + 1 : Nat) : Int) := by rw [nb' (by omega) (by omega)]; omega
    have hs : ∃ l0' l1', (ng9' b vs floor dir except i best ≠ -1 → (l0', l1') = rankV b vs floor dir (ng9' b vs floor dir except i best)) ∧ nc7' vs floor dir except best vs (vs.length : Int) (i : Int) b.Floors b.Debounce b.Room b.Park b.Empty b.Full b.Over b.Cars l0 l1 = some (.inl ((vs, floor, dir, except, (), ng9' b vs floor dir except i best, (), vs, (vs.length : Int), ((i + 1 : Nat) : Int), ()), (b.tup, (l0', l1', ()), ()))) := by
      unfold nc7'
      have k1 := nja' hb hv (car := (i : Int)) (by omega) floor dir
      rw [e, ib, w]
      simp only [cond_true]
      unfold ng9'
      rw [show vs.getD (Int.toNat (i : Int)) (View.mk false false false false 0 0 0 0 0 0 0 0) = nd' vs (i : Int) from rfl]
      cases (nd' vs (i : Int)).Ready with
      | false => exact ⟨l0, l1, hr, rfl⟩
      | true =>
        simp only [Bool.not_true, cond_false, Bool.false_or]
        cases (i : Int) == except with
        | true => exact ⟨l0, l1, hr, rfl⟩
        | false =>
          simp only [cond_false, k1, Option.bind_some]
          rcases hin with hbest | hbest
          · subst hbest
            rw [show ((-1 : Int) == -1) = true from rfl]
            simp only [cond_true, Option.bind_some, w, Bool.true_or]
            exact ⟨_, _, fun _ => rfl, rfl⟩
          · have hr' := hr (by omega)
            have e1 : l0 = (rankV b vs floor dir best).1 := congrArg Prod.fst hr'
            have e2 : l1 = (rankV b vs floor dir best).2 := congrArg Prod.snd hr'
            subst e1 e2
            rw [beq_f (show ¬ best = -1 by omega)]
            simp only [cond_false, Option.bind_some, Bool.false_or, nl7']
            cases betB (rankV b vs floor dir i) (rankV b vs floor dir best) with
            | true => simp only [cond_true, w]; exact ⟨_, _, fun _ => rfl, rfl⟩
            | false => simp only [cond_false, w]; exact ⟨_, _, fun _ => rfl, rfl⟩
    obtain ⟨l0', l1', h1, h2⟩ := hs
    exact (ny' h2).trans (nka' hb hv hl floor dir except m (i + 1) _ l0' l1' (by omega) (np8' hi' hin) h1)
theorem nid' {b : Bldg} (hb : b.small) {vs : List View} (hv : okViews vs) (hl : vs.length ≤ 100) (floor dir except : Int) :
    ndy' b.Floors b.Debounce b.Room b.Park b.Empty b.Full b.Over b.Cars vs floor dir except = some ((nb6' b vs floor dir except, ()), ()) := by
  unfold ndy' nb6'
  rw [ncc', Option.bind_some]
  cases b.code != 0 with
  | true => rfl
  | false =>
    simp only [cond_false, Bool.false_or]
    cases (vs.length : Int) != (b.Cars.length : Int) with
    | true => rfl
    | false =>
      have h := nv' (nka' hb hv hl floor dir except vs.length 0 (-1) 0 0 (by omega) (.inl rfl) (fun h => absurd rfl h)) (by omega)
      have h' : nff' ((vs, floor, dir, except, (), (-1 : Int), (), vs, (vs.length : Int), (0 : Int), ()), (b.tup, ((0 : Int), (0 : Int), ()), ())) = _ := h
      simp only [cond_false]
      refine (congrArg (fun z => Option.bind z _) h').trans ?_
      rfl
end Go.Ovl
namespace Go.Ovl
open Go Go.Ab
set_option maxRecDepth 100000
theorem nvo' {b : Bldg} {vs : List View} {floor dir except : Int} : ∀ (m i : Nat) (best : Int), i + m = vs.length → njz' vs best → njz' vs (bestF b vs floor dir except m i best)
  | 0, _, _, _, h => h
  | m + 1, i, best, hi, h => nvo' m (i + 1) _ (by omega) (np8' (by omega) h)
theorem nkv' (b : Bldg) (vs : List View) (floor dir except : Int) : njz' vs (nb6' b vs floor dir except) := by
  unfold nb6'
  cases (b.code != 0 || (vs.length : Int) != (b.Cars.length : Int)) with
  | true => exact .inl rfl
  | false => exact nvo' vs.length 0 (-1) (by omega) (.inl rfl)
noncomputable def npj' (b : Bldg) (vs : List View) (e : Entry) (x n : Int) : Bool :=
  ((nd' vs e.Car).Legacy && (x == 0 && betB (rankV b vs e.Floor e.Dir n) (rankV b vs e.Floor e.Dir e.Car))) || (!(nd' vs e.Car).Legacy && (fullV (nd' vs e.Car) && !fullV (nd' vs n)))
noncomputable def ne2' (b : Bldg) (vs : List View) (e : Entry) (x : Int) : Int :=
  bif nb6' b vs e.Floor e.Dir e.Car == -1 then -1 else bif npj' b vs e x (nb6' b vs e.Floor e.Dir e.Car) then nb6' b vs e.Floor e.Dir e.Car else -1
noncomputable def decV (b : Bldg) (vs : List View) (e : Entry) (x : Int) : Entry :=
  bif e.Car == -2 then e
  else bif e.Car == -1 then ⟨e.Floor, e.Dir, nb6' b vs e.Floor e.Dir (-1), e.Moves, e.Moved⟩
  else bif (nd' vs e.Car).Lost then (bif decide ((b.Cars.length : Int) < e.Moves) then ⟨e.Floor, e.Dir, -2, e.Moves, e.Moved⟩ else ⟨e.Floor, e.Dir, nb6' b vs e.Floor e.Dir e.Car, e.Moves + 1, e.Moved⟩)
  else bif !e.Moved && decide (e.Moves ≤ (b.Cars.length : Int)) then (bif ne2' b vs e x != -1 then ⟨e.Floor, e.Dir, ne2' b vs e x, e.Moves + 1, true⟩ else e)
  else e
def Entry.tup (e : Entry) : Int × Int × Int × Int × Bool × Unit := (e.Floor, e.Dir, e.Car, e.Moves, e.Moved, ())
section
variable {b : Bldg} (hb : b.small) {vs : List View} (hv : okViews vs) (hl : vs.length ≤ 100) {e : Entry}
include hb hv hl
theorem nqg' (hc : 0 ≤ e.Car ∧ e.Car < vs.length) (x : Int) : ndp' b.Floors b.Debounce b.Room b.Park b.Empty b.Full b.Over b.Cars vs e.Floor e.Dir e.Car e.Moves e.Moved x = some ((ne2' b vs e x, ()), ()) := by
  unfold ndp' ne2'
  have hn := nkv' b vs e.Floor e.Dir e.Car
  rw [nid' hb hv hl]
  generalize nb6' b vs e.Floor e.Dir e.Car = n at hn
  simp only [Option.bind_some]
  rcases hn with rfl | hn
  · rfl
  · have k1 := nja' hb hv hn e.Floor e.Dir
    have k2 := nja' hb hv hc e.Floor e.Dir
    have f1 := ni6' (nd' vs e.Car)
    have f2 := ni6' (nd' vs n)
    rw [beq_f (show ¬ n = -1 by omega), nc' hc.1 hc.2]
    unfold npj'
    unfold nd' at f1 f2 ⊢
    simp only [cond_true, cond_false]
    cases hleg : (vs.getD e.Car.toNat (View.mk false false false false 0 0 0 0 0 0 0 0)).Legacy with
    | true =>
      simp only [cond_true, Bool.true_and, Bool.not_true, Bool.false_and, Bool.or_false]
      cases x == 0 with
      | true =>
        simp only [cond_true, Bool.true_and, k1, k2, Option.bind_some, nl7']
        cases betB (rankV b vs e.Floor e.Dir n) (rankV b vs e.Floor e.Dir e.Car) <;> rfl
      | false => rfl
    | false =>
      rw [hleg] at f1
      simp only [cond_false, Bool.false_and, Bool.not_false, Bool.true_and, Bool.false_or, Option.bind_some, cond_true, f1]
      cases fullV (vs.getD e.Car.toNat (View.mk false false false false 0 0 0 0 0 0 0 0)) with
      | false => rfl
      | true =>
        simp only [cond_true, nc' hn.1 hn.2, Bool.true_and, f2, Option.bind_some]
        cases fullV (vs.getD n.toNat (View.mk false false false false 0 0 0 0 0 0 0 0)) <;> rfl
theorem npv' (hc : -2 ≤ e.Car ∧ e.Car < vs.length) (hm : 0 ≤ e.Moves ∧ e.Moves ≤ 255) (x : Int) : ndi' b.Floors b.Debounce b.Room b.Park b.Empty b.Full b.Over b.Cars vs e.Floor e.Dir e.Car e.Moves e.Moved x = some (((), ()), ((decV b vs e x).tup, ())) := by
  unfold ndi' decV
  have w : IntKind.i64.wrap (e.Moves + 1) = e.Moves + 1 := nb' (by omega) (by omega)
  by_cases g1 : e.Car = -2
  · rw [show (e.Car == -2) = true by rw [g1]; rfl]; rfl
  rw [beq_f g1]
  by_cases g2 : e.Car = -1
  · rw [show (e.Car == -1) = true by rw [g2]; rfl]
    simp only [cond_true, cond_false, nid' hb hv hl, Option.bind_some]
    rfl
  rw [beq_f g2]
  have hc' : 0 ≤ e.Car ∧ e.Car < vs.length := by omega
  have ho := nqg' hb hv hl hc' x
  unfold nd'
  simp only [cond_false, nc' hc'.1 hc'.2, cond_true]
  cases hlost : (vs.getD e.Car.toNat (View.mk false false false false 0 0 0 0 0 0 0 0)).Lost with
  | true =>
    simp only [cond_true, Option.bind_some]
    cases decide ((b.Cars.length : Int) < e.Moves) with
    | true => rfl
    | false =>
      simp only [cond_false, nc' hc'.1 hc'.2, cond_true, hlost, nid' hb hv hl, Option.bind_some, w]
      rfl
  | false =>
    simp only [cond_false, Option.bind_some, nc' hc'.1 hc'.2, cond_true, hlost]
    cases hmv : e.Moved with
    | true =>
      simp only [Bool.not_true, cond_false, Option.bind_some, Bool.false_and]
      unfold Entry.tup; rw [hmv]
    | false =>
      rw [hmv] at ho
      simp only [Bool.not_false, cond_true, Option.bind_some, Bool.true_and]
      cases decide (e.Moves ≤ (b.Cars.length : Int)) with
      | false =>
        simp only [cond_false]
        unfold Entry.tup; rw [hmv]
      | true =>
        simp only [cond_true, ho, Option.bind_some, w]
        cases ne2' b vs e x != -1 with
        | true => rfl
        | false =>
          simp only [cond_false]
          unfold Entry.tup; rw [hmv]
end
end Go.Ovl
namespace Go.Ovl
open Go Go.Ab
set_option maxRecDepth 100000
def recsV (was now : Entry) : List Record :=
  (bif was.Moves != now.Moves || !(was.Moved == now.Moved) then [⟨7, now.Floor, now.Dir, (bif now.Moved then 1 else 0), now.Moves⟩] else []) ++ (bif was.Car != now.Car then [⟨3, now.Floor, now.Dir, now.Car, 0⟩] else [])
theorem ntf' (a b : Entry) : (recsV a b).length ≤ 2 := by
  unfold recsV
  cases (a.Moves != b.Moves || !(a.Moved == b.Moved)) <;> cases a.Car != b.Car <;> simp
theorem npw' (a c : Entry) : nf6' a.Floor a.Dir a.Car a.Moves a.Moved c.Floor c.Dir c.Car c.Moves c.Moved = some ((recsV a c, ()), ()) := by
  unfold nf6' recsV
  have b1 : ∀ r : Record, Nat.ble (([] : List Record).length + [r].length) 2147483648 = true := fun _ => nbp' (by simp)
  have b2 : ∀ r s : Record, Nat.ble (([] ++ [s] : List Record).length + [r].length) 2147483648 = true := fun _ _ => nbp' (by simp)
  cases a.Moves != c.Moves <;> cases a.Moved == c.Moved <;> cases hm : c.Moved <;> cases hc : a.Car != c.Car <;>
    simp only [cond_true, cond_false, Option.bind_some, Bool.not_true, Bool.not_false, Bool.or_true, Bool.true_or, Bool.or_self, b1, b2, hc] <;> rfl
def carAt (b : Bldg) (i : Int) : Car := b.Cars.getD i.toNat (Car.mk 0 0 0 0 0 0 0 0 0)
noncomputable def nextV (b : Bldg) (vs : List View) (e n : Entry) (x : Int) : Int :=
  bif n.Car != e.Car && decide (0 ≤ n.Car) then (bif decide (1000000 < IntKind.i64.wrap (estV b n.Car (nd' vs n.Car) e.Floor e.Dir + (carAt b n.Car).Slack)) then 1000000 else IntKind.i64.wrap (estV b n.Car (nd' vs n.Car) e.Floor e.Dir + (carAt b n.Car).Slack))
  else (bif decide (IntKind.i64.wrap (x - 1) < 0) then 0 else IntKind.i64.wrap (x - 1))
noncomputable def planR (b : Bldg) (vs : List View) : List Entry → List Int → List Record
  | e :: t, x :: xs => recsV e (decV b vs e x) ++ planR b vs t xs
  | _, _ => []
noncomputable def planN (b : Bldg) (vs : List View) : List Entry → List Int → List Int
  | e :: t, x :: xs => nextV b vs e (decV b vs e x) x :: planN b vs t xs
  | _, _ => []
theorem n1u' (b : Bldg) (vs : List View) (e : Entry) (x : Int) : (decV b vs e x).Floor = e.Floor ∧ (decV b vs e x).Dir = e.Dir := by
  unfold decV
  cases e.Car == -2 <;> cases e.Car == -1 <;> cases (nd' vs e.Car).Lost <;> cases decide ((b.Cars.length : Int) < e.Moves) <;> cases (!e.Moved && decide (e.Moves ≤ (b.Cars.length : Int))) <;> cases ne2' b vs e x != -1 <;> exact ⟨rfl, rfl⟩
theorem n00' (b : Bldg) (vs : List View) (e : Entry) (x : Int) : njz' vs (ne2' b vs e x) := by
  unfold ne2'
  cases nb6' b vs e.Floor e.Dir e.Car == -1 with
  | true => exact .inl rfl
  | false =>
    cases npj' b vs e x (nb6' b vs e.Floor e.Dir e.Car) with
    | true => exact nkv' ..
    | false => exact .inl rfl
theorem nyh' (b : Bldg) {vs : List View} {e : Entry} (h : -2 ≤ e.Car ∧ e.Car < vs.length) (x : Int) : -2 ≤ (decV b vs e x).Car ∧ (decV b vs e x).Car < vs.length := by
  have k : ∀ n : Int, njz' vs n → -2 ≤ n ∧ n < vs.length := fun n h => by
    rcases h with rfl | h
    · omega
    · omega
  unfold decV
  by_cases g1 : e.Car = -2
  · rw [show (e.Car == -2) = true by rw [g1]; rfl]; exact h
  rw [beq_f g1]
  by_cases g2 : e.Car = -1
  · rw [show (e.Car == -1) = true by rw [g2]; rfl]; exact k _ (nkv' ..)
  rw [beq_f g2]
  simp only [cond_false]
  cases (nd' vs e.Car).Lost with
  | true =>
    cases decide ((b.Cars.length : Int) < e.Moves) with
    | true => exact ⟨by show (-2 : Int) ≤ -2; omega, by show (-2 : Int) < _; omega⟩
    | false => exact k _ (nkv' ..)
  | false =>
    cases (!e.Moved && decide (e.Moves ≤ (b.Cars.length : Int))) with
    | true =>
      cases ne2' b vs e x != -1 with
      | true => exact k _ (n00' ..)
      | false => exact h
    | false => exact h
theorem ntd' {b : Bldg} : ∀ {l : List Entry} {p : Option Entry}, entsF b p l = true → ∀ e ∈ l, entOK b e = true
  | [], _, _, _, he => by cases he
  | a :: t, p, h, e, he => by
    simp only [entsF, Bool.and_eq_true] at h
    rcases List.mem_cons.1 he with rfl | he
    · exact h.1
    · exact ntd' h.2.2 e he
theorem nle' {α : Type} (N : List α) (a v : α) (t : List α) : (N ++ a :: t).set N.length v = N ++ v :: t := by
  induction N with
  | nil => rfl
  | cons h N ih => simp only [List.cons_append, List.length_cons, List.set_cons_succ, ih]
section
variable {b : Bldg} (hb : b.small) {vs : List View} (hv : okViews vs) (hl : vs.length ≤ 100) (hlen : (vs.length : Int) = (b.Cars.length : Int)) {m : Img} (hm : ∀ e ∈ m.Entries, entOK b e = true) (hm' : m.Entries.length ≤ 1000) {xs : List Int} (hx : xs.length = m.Entries.length)
include hb hv hl hlen hm hm' hx
theorem nlh' : ∀ (k i : Nat) (out : List Record) (N : List Int), i + k = m.Entries.length → N.length = i → out.length ≤ 2 * i →
    iter (fun x => ndw' x.1.1 x.1.2.1 x.1.2.2.2.2.1 x.1.2.2.2.2.2.1 x.1.2.2.2.2.2.2.1 x.1.2.2.2.2.2.2.2.1 x.1.2.2.2.2.2.2.2.2.1 x.2.1.1 x.2.1.2.1 x.2.1.2.2.1 x.2.1.2.2.2.1 x.2.1.2.2.2.2.1 x.2.1.2.2.2.2.2.1 x.2.1.2.2.2.2.2.2.1 x.2.1.2.2.2.2.2.2.2.1 x.2.2.1.1 x.2.2.1.2.1 x.2.2.1.2.2.1 x.2.2.1.2.2.2.1 x.2.2.1.2.2.2.2.1 x.2.2.1.2.2.2.2.2.1 x.2.2.1.2.2.2.2.2.2.1 x.2.2.1.2.2.2.2.2.2.2.1 x.2.2.1.2.2.2.2.2.2.2.2.1) (k + 1)
      ((xs, vs, (), (), out, N ++ List.replicate k 0, m.Entries, (m.Entries.length : Int), (i : Int), ()), (b.tup, (b.Floors, b.Debounce, b.Room, b.Park, b.Empty, b.Full, b.Over, b.Cars, vs, ()), ())) = some ((out ++ planR b vs (m.Entries.drop i) (xs.drop i), N ++ planN b vs (m.Entries.drop i) (xs.drop i), ()), ())
  | 0, i, out, N, hi, hN, ho => by
    refine nr' ?_
    show ndw' xs vs out (N ++ []) m.Entries (m.Entries.length : Int) (i : Int) b.Floors b.Debounce b.Room b.Park b.Empty b.Full b.Over b.Cars b.Floors b.Debounce b.Room b.Park b.Empty b.Full b.Over b.Cars vs = _
    unfold ndw'
    have e : decide ((i : Int) < (m.Entries.length : Int)) = false := by simp; omega
    rw [e, show i = m.Entries.length by omega, List.drop_length]
    simp [planR, planN]
  | k + 1, i, out, N, hi, hN, ho => by
    have hi' : i < m.Entries.length := by omega
    have hix : i < xs.length := by omega
    have e : decide ((i : Int) < (m.Entries.length : Int)) = true := by simp; omega
    have ib : inB (i : Int) m.Entries.length = true := nc' (by omega) (by omega)
    have ibx : inB (i : Int) xs.length = true := nc' (by omega) (by omega)
    have ibn : inB (i : Int) (N ++ List.replicate (k + 1) (0 : Int)).length = true := nc' (by omega) (by simp; omega)
    have w : IntKind.i64.wrap ((i : Int) + 1) = ((i + 1 : Nat) : Int) := by rw [nb' (by omega) (by omega)]; omega
    have hok := ndm' noE hi'
    have hent := hm _ hok
    simp only [entOK, Bool.and_eq_true, decide_eq_true_eq] at hent
    obtain ⟨_, c1, c2, c3, c4⟩ := hent
    have hd := npv' hb hv hl (e := m.Entries.getD i noE) (by omega) ⟨c3, c4⟩ (xs.getD i 0)
    have hr := npw' (m.Entries.getD i noE) (decV b vs (m.Entries.getD i noE) (xs.getD i 0))
    have hin := nyh' b (vs := vs) (e := m.Entries.getD i noE) (by omega) (xs.getD i 0)
    have hrl := ntf' (m.Entries.getD i noE) (decV b vs (m.Entries.getD i noE) (xs.getD i 0))
    have hble : Nat.ble (out.length + (recsV (m.Entries.getD i noE) (decV b vs (m.Entries.getD i noE) (xs.getD i 0))).length) 2147483648 = true := nbp' (by omega)
    have hset : ∀ v : Int, (N ++ List.replicate (k + 1) (0 : Int)).set i v = N ++ v :: List.replicate k 0 := fun v => by
      rw [← hN]; exact nle' N 0 v (List.replicate k 0)
    have hset2 : ∀ v u : Int, (N ++ v :: List.replicate k (0 : Int)).set i u = N ++ u :: List.replicate k 0 := fun v u => by
      rw [← hN]; exact nle' N v u (List.replicate k 0)
    have ibn2 : ∀ v : Int, inB (i : Int) (N ++ v :: List.replicate k (0 : Int)).length = true := fun v => nc' (by omega) (by simp; omega)
    rw [nbi' noE hi', nbi' (0 : Int) hix]
    refine (ny' (x' := ((xs, vs, (), (), out ++ recsV (m.Entries.getD i noE) (decV b vs (m.Entries.getD i noE) (xs.getD i 0)), (N ++ [nextV b vs (m.Entries.getD i noE) (decV b vs (m.Entries.getD i noE) (xs.getD i 0)) (xs.getD i 0)]) ++ List.replicate k 0, m.Entries, (m.Entries.length : Int), ((i + 1 : Nat) : Int), ()), (b.tup, (b.Floors, b.Debounce, b.Room, b.Park, b.Empty, b.Full, b.Over, b.Cars, vs, ()), ()))) ?_).trans ?_
    · show ndw' xs vs out (N ++ List.replicate (k + 1) 0) m.Entries (m.Entries.length : Int) (i : Int) b.Floors b.Debounce b.Room b.Park b.Empty b.Full b.Over b.Cars b.Floors b.Debounce b.Room b.Park b.Empty b.Full b.Over b.Cars vs = _
      unfold ndw'
      rw [e, ib, ibx, show Entry.mk 0 0 0 0 false = noE from rfl]
      unfold Entry.tup at hd
      simp only [cond_true, Int.toNat_natCast, hd, Option.bind_some, hr, hble, ibn, hset]
      unfold nextV
      have hest := nyp' hb (hv.at (decV b vs (m.Entries.getD i noE) (xs.getD i 0)).Car) (decV b vs (m.Entries.getD i noE) (xs.getD i 0)).Car (m.Entries.getD i noE).Floor (m.Entries.getD i noE).Dir
      unfold estP nd' at hest
      cases hne : ((decV b vs (m.Entries.getD i noE) (xs.getD i 0)).Car != (m.Entries.getD i noE).Car) with
      | false =>
        simp only [cond_false, Option.bind_some, Bool.false_and, List.append_assoc, List.singleton_append, w]
        rfl
      | true =>
        simp only [cond_true, Option.bind_some, Bool.true_and]
        by_cases hge : 0 ≤ (decV b vs (m.Entries.getD i noE) (xs.getD i 0)).Car
        · have ibc : inB (decV b vs (m.Entries.getD i noE) (xs.getD i 0)).Car vs.length = true := nc' hge hin.2
          have ibc' : inB (decV b vs (m.Entries.getD i noE) (xs.getD i 0)).Car b.Cars.length = true := nc' hge (by omega)
          rw [decide_eq_true hge]
          simp only [cond_true, ibc, hest, Option.bind_some, ibc', ibn2, Int.toNat_natCast, hset2, List.append_assoc, List.singleton_append, w]
          rfl
        · rw [decide_eq_false hge]
          simp only [cond_false, List.append_assoc, List.singleton_append, w]
          rfl
    · rw [nlh' k (i + 1) _ (N ++ [_]) (by omega) (by simp; omega) (by rw [List.length_append]; omega)]
      simp only [planR, planN, List.append_assoc, List.singleton_append]
end
end Go.Ovl
namespace Go.Ovl
open Go Go.Ab
set_option maxRecDepth 100000
def expOK (xs : List Int) : Bool := xs.all (inR 0 1000000)
theorem n1i' (n : Int) : ngt' n = some ((!inR 0 1000000 n, ()), ()) := by
  unfold ngt' inR
  by_cases g : n < 0
  · rw [decide_eq_true g, decide_eq_false (show ¬ 0 ≤ n by omega)]; rfl
  · rw [decide_eq_false g, decide_eq_true (show 0 ≤ n by omega)]
    by_cases g' : 1000000 < n
    · rw [decide_eq_true g', decide_eq_false (show ¬ n ≤ 1000000 by omega)]; rfl
    · rw [decide_eq_false g', decide_eq_true (show n ≤ 1000000 by omega)]; rfl
theorem nxt' {xs : List Int} (hl : xs.length ≤ maxLen) : nbb' xs = some ((!expOK xs, ()), ()) := by
  have hm : maxLen ≤ 9223372036854775807 := by decide
  have key : ∀ (k i : Nat), i + k = xs.length → ∃ y, iter (fun x => nu' x.1.1 x.1.2.2.1 x.1.2.2.2.1) (k + 1) ((xs, (), (xs.length : Int), (i : Int), ()), ()) = some y ∧ (match y with | .inl _ => (xs.drop i).all (inR 0 1000000) = true | .inr z => 0 ≤ z.1.1 ∧ (xs.drop i).all (inR 0 1000000) = false) := by
    intro k
    induction k with
    | zero =>
      intro i hi
      refine ⟨.inl ((), ()), nr' ?_, ?_⟩
      · show nu' xs (xs.length : Int) (i : Int) = _
        unfold nu'
        rw [show decide ((i : Int) < (xs.length : Int)) = false by simp; omega]; rfl
      · rw [show i = xs.length by omega, List.drop_length]; rfl
    | succ k ih =>
      intro i hi
      have hi' : i < xs.length := by omega
      have hs : nu' xs (xs.length : Int) (i : Int) = some (bif inR 0 1000000 (xs.getD i 0) then .inl ((xs, (), (xs.length : Int), ((i + 1 : Nat) : Int), ()), ()) else .inr (.inr (((i : Int), ()), ()))) := by
        unfold nu'
        have w : IntKind.i64.wrap ((i : Int) + 1) = ((i + 1 : Nat) : Int) := by rw [nb' (by omega) (by omega)]; omega
        rw [show decide ((i : Int) < (xs.length : Int)) = true by simp; omega, nc' (by omega) (by omega), n1i', w]
        simp only [cond_true, Int.toNat_natCast, Option.bind_some]
        cases inR 0 1000000 (xs.getD i 0) <;> rfl
      rw [nbi' (0 : Int) hi', List.all_cons]
      cases hq : inR 0 1000000 (xs.getD i 0) with
      | true =>
        rw [hq] at hs
        obtain ⟨y, h1, h2⟩ := ih (i + 1) (by omega)
        exact ⟨y, (ny' hs).trans h1, by rw [Bool.true_and]; exact h2⟩
      | false =>
        rw [hq] at hs
        exact ⟨_, nr' hs, by show (0 : Int) ≤ (i : Int) ∧ _; exact ⟨by omega, rfl⟩⟩
  obtain ⟨y, h1, h2⟩ := key xs.length 0 (by omega)
  have h1' : nbc' ((xs, (), (xs.length : Int), (0 : Int), ()), ()) = some y := nv' h1 (by omega)
  rw [List.drop_zero] at h2
  unfold nbb' nb1' expOK
  rw [h1']
  cases y with
  | inl z => simp only at h2; rw [h2]; rfl
  | inr z =>
    simp only at h2
    rw [h2.2]
    simp only [Option.bind_some]
    rw [decide_eq_true h2.1]; rfl
noncomputable def planV (b : Bldg) (m : Img) (xs : List Int) (vs : List View) : List Record × List Int × Int × Unit :=
  bif m.ok b && ((xs.length : Int) == (m.Entries.length : Int) && ((vs.length : Int) == (b.Cars.length : Int) && expOK xs)) then (planR b vs m.Entries xs, planN b vs m.Entries xs, 0, ()) else ([], [], 1, ())
theorem Img.ok_all {b : Bldg} {m : Img} (h : m.ok b = true) : b.code = 0 ∧ m.Phases.length = b.Cars.length ∧ m.Flags.length = b.Cars.length ∧ m.Leaving.length = b.Cars.length ∧ (∀ p ∈ m.Phases, 0 ≤ p ∧ p ≤ 4) ∧ (∀ e ∈ m.Entries, entOK b e = true) ∧ entsF b Option.none m.Entries = true := by
  unfold Img.ok at h
  simp only [Bool.and_eq_true, beq_iff_eq] at h
  obtain ⟨h0, h1, h2, h3, h4, h5⟩ := h
  exact ⟨h0, by omega, by omega, by omega, fun p hp => n1'.1 (List.all_eq_true.1 h4 p hp), ntd' h5, h5⟩
section
variable {b : Bldg} (hb : b.small) {vs : List View} (hv : okViews vs) (hl : vs.length ≤ 100) (m : Img) (hm : m.Entries.length ≤ 1000) (hp : m.Phases.length ≤ maxLen) (xs : List Int) (hx : xs.length ≤ maxLen)
include hb hv hl hm hp hx
theorem nsw' : ney' b.Floors b.Debounce b.Room b.Park b.Empty b.Full b.Over b.Cars m.Phases m.Flags m.Leaving m.Entries xs vs = some (planV b m xs vs, ()) := by
  have hmx : 1000 ≤ maxLen := by decide
  unfold ney' planV
  rw [nfw' hb m hp (by omega), nxt' hx]
  simp only [Option.bind_some, bne]
  cases hok : m.ok b with
  | false => rfl
  | true =>
    cases hq : (xs.length : Int) == (m.Entries.length : Int) with
    | false => rfl
    | true =>
      cases hr : (vs.length : Int) == (b.Cars.length : Int) with
      | false => rfl
      | true =>
        cases expOK xs with
        | false => rfl
        | true =>
          have hq' : (xs.length : Int) = (m.Entries.length : Int) := by simpa using hq
          have hr' : (vs.length : Int) = (b.Cars.length : Int) := by simpa using hr
          obtain ⟨_, _, _, _, _, hall, _⟩ := Img.ok_all hok
          have hlp := nv' (nlh' hb hv hl hr' hall hm (xs := xs) (by omega) m.Entries.length 0 [] [] (by omega) rfl (by simp)) (by omega)
          have hlp' : ng1' ((xs, vs, (), (), ([] : List Record), List.replicate m.Entries.length (0 : Int), m.Entries, (m.Entries.length : Int), (0 : Int), ()), (b.tup, (b.Floors, b.Debounce, b.Room, b.Park, b.Empty, b.Full, b.Over, b.Cars, vs, ()), ())) = _ := hlp
          unfold Bldg.tup at hlp'
          simp only [Bool.not_true, cond_false, hq', decide_eq_true (show (0 : Int) ≤ (m.Entries.length : Int) by omega), decide_eq_true (Int.le_refl (m.Entries.length : Int)), decide_eq_true (show (m.Entries.length : Int) ≤ 2147483648 by omega), Bool.and_self, cond_true, Int.toNat_natCast, hlp', Option.bind_some, List.drop_zero, List.nil_append]
end
theorem nti' (b : Bldg) (vs : List View) : ∀ (l : List Entry) (xs : List Int), (planR b vs l xs).length ≤ 2 * l.length
  | [], _ => by simp [planR]
  | _ :: _, [] => by simp [planR]
  | e :: t, x :: xs => by
    have h1 := nti' b vs t xs
    have h2 := ntf' e (decV b vs e x)
    simp only [planR, List.length_append, List.length_cons]
    omega
theorem ntk' (b : Bldg) (vs : List View) : ∀ (l : List Entry) (xs : List Int), xs.length = l.length → (planN b vs l xs).length = l.length
  | [], _, _ => by simp [planN]
  | _ :: _, [], h => by simp at h
  | e :: t, x :: xs, h => by
    simp only [planN, List.length_cons, ntk' b vs t xs (by simpa using h)]
theorem n02' (b : Bldg) (m : Img) (xs : List Int) (vs : List View) : (planV b m xs vs).1.length ≤ 2 * m.Entries.length ∧ (planV b m xs vs).2.1.length ≤ m.Entries.length := by
  unfold planV
  cases hq : (m.ok b && ((xs.length : Int) == (m.Entries.length : Int) && ((vs.length : Int) == (b.Cars.length : Int) && expOK xs))) with
  | false => exact ⟨by simp, by simp⟩
  | true =>
    simp only [Bool.and_eq_true, beq_iff_eq] at hq
    refine ⟨nti' b vs m.Entries xs, ?_⟩
    show (planN b vs m.Entries xs).length ≤ _
    rw [ntk' b vs m.Entries xs (by omega)]
    exact Nat.le_refl _
end Go.Ovl
