/- Records and what they do to an image (layers 9 and 10), by the reference. -/
import Derived.Test.YthdomhdippmaiaaGreatOvImage
namespace Go.Ovl
open Go Go.Ab
set_option maxRecDepth 100000
theorem nvn' (n lo hi : Int) : nf1' n lo hi = some ((inR lo hi n, ()), ()) := by
  unfold nf1' inR
  cases decide (lo ≤ n) <;> rfl
def carR (b : Bldg) (r : Record) : Bool := inR 0 ((b.Cars.length : Int) - 1) r.Car && (r.Floor == 0 && r.Dir == 0)
def n4' (b : Bldg) (r : Record) : Bool :=
  b.code == 0 && (bif r.Kind == 1 then nbf' b r.Floor r.Dir && (r.Car == 0 && r.Value == 0)
  else bif r.Kind == 2 then nbf' b r.Floor r.Dir && (r.Car == 0 && r.Value == 0)
  else bif r.Kind == 3 then nbf' b r.Floor r.Dir && (inR (-2) ((b.Cars.length : Int) - 1) r.Car && r.Value == 0)
  else bif r.Kind == 4 then carR b r && inR 0 4 r.Value
  else bif r.Kind == 5 then carR b r && inR 0 1 r.Value
  else bif r.Kind == 6 then carR b r && inR 0 1 r.Value
  else bif r.Kind == 7 then nbf' b r.Floor r.Dir && (inR 0 1 r.Car && inR 0 255 r.Value)
  else false)
theorem nwu' {b : Bldg} (hb : b.small) (hc : b.Cars.length ≤ 100) (r : Record) : nhp' b.Floors b.Debounce b.Room b.Park b.Empty b.Full b.Over b.Cars r.Kind r.Floor r.Dir r.Car r.Value = some ((n4' b r, ()), ()) := by
  have w : IntKind.i64.wrap ((b.Cars.length : Int) - 1) = (b.Cars.length : Int) - 1 := nb' (by omega) (by omega)
  unfold nhp' n4' carR
  rw [nd3', nlp' hb, nvn', w]
  simp only [Option.bind_some, bne, nvn']
  cases b.code == 0 with
  | false => rfl
  | true =>
    simp only [Bool.not_true, cond_false, Bool.true_and]
    have k : ∀ (q : Bool) {x y z : Option ((Bool × Unit) × Unit)} {u v : Bool}, (q = true → x = some ((u, ()), ())) → (q = false → y = some ((v, ()), ())) → (bif q then x else y) = some (((bif q then u else v), ()), ()) := fun q _ _ _ _ _ h1 h2 => by
      cases q
      · exact h2 rfl
      · exact h1 rfl
    cases inR 0 ((b.Cars.length : Int) - 1) r.Car <;> cases r.Floor == 0 <;> cases r.Dir == 0 <;>
      (simp only [cond_true, cond_false, Option.bind_some, Bool.and_self, Bool.and_true, Bool.and_false, Bool.false_and, Bool.true_and]
       refine k _ (z := none) (fun _ => ?_) fun _ => k _ (z := none) (fun _ => ?_) fun _ => k _ (z := none) (fun _ => ?_) fun _ => k _ (z := none) (fun _ => ?_) fun _ => k _ (z := none) (fun _ => ?_) fun _ => k _ (z := none) (fun _ => ?_) fun _ => k _ (z := none) (fun _ => ?_) fun _ => ?_
       all_goals first
         | rfl
         | (cases nbf' b r.Floor r.Dir <;> cases r.Car == 0 <;> rfl)
         | (cases nbf' b r.Floor r.Dir <;> cases inR 0 1 r.Car <;> rfl)
         | (rw [w]; cases nbf' b r.Floor r.Dir <;> cases inR (-2) ((b.Cars.length : Int) - 1) r.Car <;> rfl))
end Go.Ovl
