/- One step of a region: what the evaluator says, the model does. -/
import Derived.Test.YtfooilbkiclplaaAb11
namespace Go.Ab
variable {G : Sig}

/-! ### A computation does not look at what is behind it -/
def Law {α : Type} (m : M α) : Prop := ∀ (R : Type) (k : α → Option R), m R k = (m α some).bind k
theorem Law.spec {α R : Type} {m : M α} (h : Law m) {k : α → Option R} {r : R} (hm : m R k = some r) : ∃ a, m α some = some a ∧ k a = some r := by
  rw [h R k] at hm
  cases hv : m α some with
  | none => rw [hv] at hm; simp at hm
  | some a => rw [hv] at hm; exact ⟨a, rfl, hm⟩
theorem law_ret {α : Type} (a : α) : Law (M.ret a) := fun _ _ => rfl
theorem law_fail {α : Type} : Law (M.fail : M α) := fun _ _ => rfl
theorem law_need (b : Bool) : Law (M.need b) := fun _ _ => by cases b <;> rfl
theorem law_opt {α : Type} (o : Option α) : Law (M.opt o) := fun _ _ => by cases o <;> rfl
theorem law_split (b : Bool) : Law (M.split b) := fun _ _ => by cases b <;> rfl
theorem law_lift {α : Type} (o : Option α) : Law (M.lift o) := fun _ _ => by cases o <;> rfl
theorem law_bind {α β : Type} {m : M α} {f : α → M β} (hm : Law m) (hf : ∀ a, Law (f a)) : Law (M.bind m f) := fun R k => by
  show m R (fun a => f a R k) = (m β (fun a => f a β some)).bind k
  rw [hm R, hm β]
  cases m α some with
  | none => rfl
  | some a => exact hf a R k
section
variable {cf : CallF G} (hcf : ∀ g args h nm, Law (cf g args h nm)) {ev : Operand → Option (Sv G.T)} {h : Nat → Option (Blk G.T)} {nm : Nat}
theorem law_evP (x : Operand) : Law (evP ev x) := fun R k => by unfold evP; split <;> rfl
theorem law_evC (x : Operand) : Law (evC ev x) := fun R k => by unfold evC; split <;> rfl
theorem law_evI (x : Operand) : Law (evI ev x) := fun R k => by unfold evI; split <;> rfl
theorem law_evB (x : Operand) : Law (evB ev x) := fun R k => by unfold evB; split <;> rfl
theorem law_evPs : ∀ xs : List Operand, Law (evPs ev xs)
  | [] => law_ret _
  | x :: t => law_bind (law_evP x) fun _ => law_bind (law_evPs t) fun _ => law_ret _
theorem law_evParts : ∀ xs : List (Nat × Operand), Law (evParts ev xs)
  | [] => law_ret _
  | (_, x) :: t => law_bind (law_evP x) fun _ => law_bind (law_evParts t) fun _ => law_ret _
theorem law_evBound (d m : Nat) (x : Option Operand) : Law (evBound ev d m x) := by
  cases x with
  | none => exact law_ret _
  | some x => unfold evBound; exact law_bind (law_evI x) fun _ => law_bind (law_need _) fun _ => law_ret _
theorem law_aMove (x : Operand) : Law (aMove ev x) := fun R k => by unfold aMove; split <;> rfl
theorem law_bin (op : BinOp) (x y : Value) : Law (bin op x y) := by
  unfold bin
  split
  · unfold binInt
    split <;> first
      | exact law_bind (law_need _) fun _ => law_ret _
      | exact law_bind (law_need _) fun _ => law_bind (law_opt _) fun _ => law_ret _
      | exact law_bind (law_need _) fun _ => law_bind (law_need _) fun _ => law_ret _
  · exact law_bind (law_need _) fun _ => law_bind (law_opt _) fun _ => law_ret _
  · unfold binStr
    split <;> first | exact law_fail | exact law_ret _ | exact law_bind (law_need _) fun _ => law_ret _
  · exact law_fail
theorem law_builtin (b : Builtin) (tys : List Nat) (xs : List Operand) : Law (actBuiltin ev h nm b tys xs) := by
  unfold actBuiltin
  split
  · unfold bLen
    split
    · refine law_bind (law_evC _) fun c => ?_
      split <;> first | exact law_fail | exact law_ret _
    · exact law_ret _
    · exact law_bind (law_evC _) fun _ => law_bind (law_opt _) fun _ => law_ret _
    · exact law_fail
  · unfold bMin; exact law_bind (law_evI _) fun _ => law_bind (law_evI _) fun _ => law_bind (law_need _) fun _ => law_ret _
  · unfold bMax; exact law_bind (law_evI _) fun _ => law_bind (law_evI _) fun _ => law_bind (law_need _) fun _ => law_ret _
  · unfold bAppend
    split
    · refine law_bind (law_need _) fun _ => law_bind (law_evC _) fun c => law_bind (law_evC _) fun _ => law_bind (law_opt _) fun _ => law_bind (law_opt _) fun _ => law_bind (law_need _) fun _ => ?_
      unfold appC
      split
      · exact law_ret _
      · exact law_bind (law_need _) fun _ => law_ret _
      · exact law_fail
    · exact law_fail
  · exact law_fail
include hcf
theorem law_act (op : Op) : Law (act cf ev h nm op) := by
  cases op
  case makeFunc fn a b =>
    cases fn
    case func f => show Law (aFunc ev f a.toList b.toList); unfold aFunc; exact law_bind (law_evPs _) fun _ => law_bind (law_evPs _) fun _ => law_bind (law_opt _) fun _ => law_bind (law_opt _) fun _ => law_ret _
    all_goals exact law_fail
  case call c =>
    obtain ⟨callee, xs, tys⟩ := c
    cases callee
    case value f =>
      show Law (aCall cf ev h nm f xs.toList); unfold aCall
      refine law_bind (law_evC _) fun c => law_bind (law_evPs _) fun a => ?_
      cases c <;> first | exact law_fail | exact hcf _ _ _ _
    case builtin b => exact law_builtin _ _ _
    case invoke => exact law_fail
  case move x => exact law_aMove x
  case assign x => exact law_aMove x
  case pick c a b => show Law (aPick ev c a b); unfold aPick; exact law_bind (law_evB _) fun _ => law_bind (law_split _) fun _ => law_aMove _
  case alloc t => show Law (aAlloc nm t); unfold aAlloc; split <;> first | exact law_fail | exact law_ret _
  case box t x => show Law (aBox ev nm x); unfold aBox; exact law_bind (law_evP _) fun _ => law_ret _
  case build t ps =>
    show Law (aBuild ev t ps.toList); unfold aBuild
    split <;> first | exact law_fail | exact law_bind (law_evParts _) fun _ => law_bind (law_opt _) fun _ => law_ret _
  case buildSlice t n ps =>
    show Law (aBuildSlice ev nm t n ps.toList); unfold aBuildSlice
    split <;> first | exact law_fail | exact law_bind (law_evParts _) fun _ => law_bind (law_need _) fun _ => law_bind (law_opt _) fun _ => law_bind (law_opt _) fun _ => law_ret _
  case load t a => show Law (aLoad ev h t a); unfold aLoad; exact law_bind (law_evC _) fun _ => law_bind (law_opt _) fun _ => law_bind (law_opt _) fun _ => law_ret _
  case store t a x => show Law (aStore ev h t a x); unfold aStore; exact law_bind (law_evC _) fun _ => law_bind (law_evP _) fun _ => law_bind (law_need _) fun _ => law_bind (law_opt _) fun _ => law_ret _
  case nilCheck x => show Law (aNil ev x); unfold aNil; exact law_bind (law_evC _) fun _ => law_bind (law_need _) fun _ => law_ret _
  case binOp op t x y u =>
    show Law (aBin ev op t x y); unfold aBin
    refine law_bind (law_evP _) fun a => law_bind (law_evP _) fun b => ?_
    unfold binP
    split
    · unfold binS
      split
      · split <;> first | exact law_fail | exact law_ret _
      · exact law_bind (law_bin _ _ _) fun _ => law_ret _
    · refine law_bind (law_need _) fun _ => law_bind (law_opt _) fun _ => ?_
      split <;> first | exact law_fail | exact law_ret _
    · exact law_fail
  case unOp op t x =>
    show Law (aUn ev op x); unfold aUn
    refine law_bind (law_evC _) fun c => ?_
    unfold unP
    split <;> first | exact law_fail | exact law_ret _ | exact law_bind (law_opt _) fun _ => law_ret _
  case convert s t x =>
    show Law (aConv ev s t x); unfold aConv
    refine law_bind (law_need _) fun _ => law_bind (law_evC _) fun c => ?_
    unfold convC
    split <;> first | exact law_fail | exact law_ret _
  case makeSlice t x y =>
    show Law (aMakeSlice ev nm t x y); unfold aMakeSlice
    split <;> first | exact law_fail | exact law_bind (law_evI _) fun _ => law_bind (law_evI _) fun _ => law_bind (law_need _) fun _ => law_bind (law_opt _) fun _ => law_ret _
  case slice t x lo hi mx =>
    show Law (aSlice ev t x lo hi mx); unfold aSlice
    split
    · exact law_fail
    · split
      · refine law_bind (law_evC _) fun c => ?_
        unfold sliceS
        split <;> first | exact law_fail | exact law_bind (law_evBound _ _ _) fun _ => law_bind (law_evBound _ _ _) fun _ => law_ret _
      · refine law_bind (law_evC _) fun c => ?_
        unfold sliceR
        split <;> first | exact law_fail | exact law_bind (law_need _) fun _ => law_bind (law_evBound _ _ _) fun _ => law_bind (law_evBound _ _ _) fun _ => law_ret _
      · exact law_fail
  case fieldAddr t x f =>
    show Law (aFieldAddr ev t x f); unfold aFieldAddr
    split <;> first | exact law_fail | exact law_bind (law_evC _) fun _ => law_bind (law_opt _) fun _ => law_bind (law_opt _) fun _ => law_ret _
  case field t x f =>
    show Law (aField ev t x f); unfold aField
    split
    · refine law_bind (law_evP _) fun y => ?_
      unfold fieldP
      split <;> first | exact law_fail | exact law_bind (law_opt _) fun _ => law_bind (law_opt _) fun _ => law_bind (law_opt _) fun _ => law_ret _
    · exact law_fail
  case indexAddr t x i =>
    show Law (aIndexAddr ev h t x i); unfold aIndexAddr
    split
    · refine law_bind (law_evC _) fun c => law_bind (law_evI _) fun i => ?_
      unfold ixA
      split <;> first | exact law_fail | exact law_bind (law_need _) fun _ => law_ret _
    · refine law_bind (law_evC _) fun c => law_bind (law_evI _) fun i => ?_
      unfold ixS
      split
      · split <;> first | exact law_fail | exact law_bind (law_need _) fun _ => law_bind (law_need _) fun _ => law_ret _
      · exact law_bind (law_need _) fun _ => law_bind (law_need _) fun _ => law_ret _
      · exact law_fail
    · exact law_fail
  case index t x i =>
    show Law (aIndex ev t x i); unfold aIndex
    split
    · refine law_bind (law_evC _) fun c => law_bind (law_evI _) fun i => ?_
      unfold ixV
      split <;> first | exact law_fail | exact law_bind (law_need _) fun _ => law_ret _
    · exact law_fail
  case extract x i =>
    show Law (aExtract ev x i)
    intro R k
    unfold aExtract
    split
    · split <;> rfl
    · rfl
  all_goals exact law_fail
end
end Go.Ab
