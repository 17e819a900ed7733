/- A program's types as a table. -/
import Derived.Test.YtfooilbkiclplaaAb22
namespace Go.Ab

structure TyD where
  A : Type
  d : A
def lookD : List (Nat × TyD) → Nat → TyD
  | [], _ => ⟨Unit, ()⟩
  | p :: r, t => bif Nat.beq p.1 t then p.2 else lookD r t
@[reducible] def TOf (tys : List (Nat × TyD)) (t : Nat) : Type := (lookD tys t).A
/-- What is known of one type. -/
structure Ent (T : Nat → Type) (t : Nat) where
  ty : Ty
  sz : Nat
  zero : List Value
  enc : T t → List (Cv T)
  dec : List (Cv T) → Option (T t)
  flat : Bool
structure Ent1 (T : Nat → Type) where
  t : Nat
  e : Ent T t
def noEnt (T : Nat → Type) (t : Nat) : Ent T t := ⟨.no, 0, [], fun _ => [], fun _ => none, false⟩
def findE {T : Nat → Type} : List (Ent1 T) → (t : Nat) → Ent T t
  | [], t => noEnt T t
  | p :: r, t => if h : p.t = t then h ▸ p.e else findE r t
def mkSig (tys : List (Nat × TyD)) (l : List (Ent1 (TOf tys))) : Sig :=
  { T := TOf tys
    ty := fun t => (findE l t).ty
    sz := fun t => (findE l t).sz
    zero := fun t => (findE l t).zero
    enc := fun t => (findE l t).enc
    dec := fun t => (findE l t).dec
    dfl := fun t => (lookD tys t).d
    flat := fun t => (findE l t).flat }
/-- An entry of a type that is no element of a slice. -/
def plain (T : Nat → Type) (t : Nat) (ty : Ty) (sz : Nat) (zero : List Value) : Ent1 T := ⟨t, ⟨ty, sz, zero, fun _ => [], fun _ => none, false⟩⟩
end Go.Ab
