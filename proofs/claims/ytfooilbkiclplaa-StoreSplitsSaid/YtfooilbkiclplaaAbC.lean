/- The abstract evaluator: code, functions. -/
import Derived.Test.YtfooilbkiclplaaAbS
namespace Go.Ab
variable {G : Sig}

/-! ### Code -/
def loopsIn : Code → Nat
  | .seq a b => loopsIn a + loopsIn b
  | .cond _ a b => loopsIn a + loopsIn b
  | .block _ a => loopsIn a
  | .loop a => loopsIn a + 1
  | _ => 0
def dropAll {α : Type} (l : List (Nat × α)) : List Nat → List (Nat × α)
  | [] => l
  | n :: t => dropAll (del l n) t
def St.kill (st : St G) (ks : List Nat) : St G := { st with tm := dropAll st.tm ks }
def condT (tm : List (Nat × Sv G.T)) (t : Nat) : M (Bool × Option (Nat × Bool)) := fun _ k =>
  match get tm t with
  | some (.p (.one (.sc (.bool b)))) => bif b then k (true, some (t, true)) else k (false, some (t, false))
  | _ => none
def condV : Value → M (Bool × Option (Nat × Bool))
  | .bool b => M.ret (b, none)
  | _ => M.fail
def condB (tm : List (Nat × Sv G.T)) : Operand → M (Bool × Option (Nat × Bool))
  | .tmp t => condT tm t
  | .const v => condV v
  | _ => M.fail
section
variable (cf : CallF G) (nt : Nat) (drawn : Array Oper → St G → M (St G)) (lp : Nat → St G → M (Ex × St G)) (kl : Nat → List Nat) (jn : Nat → Option (List (Ex × Spec)))
/-- The first region of a code. -/
def front : Code → Nat
  | .seq a _ => front a
  | .block _ a => front a
  | .region id _ _ => id + 1
  | _ => 0
def runC : Nat → Code → St G → M (Ex × St G)
  | _, .skip, st => M.ret (.normal, st)
  | _, .ret, st => M.ret (.ret, st)
  | _, .exit id, st => M.ret (.exit id, st)
  | n, .seq a b, st => M.bind (cutO (jn (front b)) (runC n a st)) fun p => match p.1 with
    | .normal => runC (n + loopsIn a) b p.2
    | e => M.ret (e, p.2)
  | n, .cond c a b, st => M.bind (condB st.tm c) fun p => match p.1 with
    | true => runC n a (st.note p.2)
    | false => runC (n + loopsIn a) b (st.note p.2)
  | n, .block id a, st => M.bind (runC n a st) fun p => match p.1 with
    | .exit i => M.ret (bif Nat.beq i id then .normal else .exit i, p.2)
    | e => M.ret (e, p.2)
  | n, .loop _, st => lp n st
  | _, .region id ops false, st => M.bind (runOps cf nt ops ops.toList st) fun st => M.ret (.normal, st.kill (kl id))
  | _, .region id ops true, st => M.bind (drawn ops st) fun st => M.ret (.normal, st.kill (kl id))
  | _, _, _ => M.fail
end

/-! ### Functions -/
def zipN {α : Type} : Nat → List α → List (Nat × α)
  | _, [] => []
  | n, x :: t => (n, x) :: zipN (n + 1) t
def resOf (st : St G) : ResultVar → Option (Pv G.T)
  | .tmp t => match get st.tm t with | some (.p x) => some x | _ => none
  | .cell a t => match get st.tm a with
    | some (.p (.one c)) => match look (get st.hp) (G.sz t) c with | some cs => pack G t cs | none => none
    | _ => none
def resAll (st : St G) : List ResultVar → Option (List (Pv G.T))
  | [] => some []
  | r :: t => match resOf st r, resAll st t with | some x, some l => some (x :: l) | _, _ => none
def resS (st : St G) (rs : List ResultVar) : Option (Sv G.T) := match resAll st rs with
  | some [x] => some (.p x)
  | some l => some (.tup l)
  | none => none
section
variable (cf : CallF G) (drawn : Nat → Array Oper → St G → M (St G)) (lp : Nat → St G → M (Ex × St G)) (kl : Nat → List Nat) (jn : Nat → Option (List (Ex × Spec))) (je : Option (List (Ex × Spec)))
/-- The result of a function, and the memory behind it. -/
def runF (nt : Nat) (body : Code) (rs : List ResultVar) (args : List (Pv G.T)) (hp : List (Nat × Blk G.T)) (us : List Nat) : M (Sv G.T × St G) :=
  M.bind (cutO je (runC cf nt (drawn nt) lp kl jn 0 body ⟨zipN 0 (args.map .p), hp, us⟩)) fun p => match p.1 with
    | .exit _ => M.fail
    | _ => M.bind (M.opt (resS p.2 rs)) fun s => M.ret (s, p.2)
end
end Go.Ab
