/- The table of a program's functions. -/
import Derived.Test.YtfooilbkiclplaaAb23
namespace Go.Ab
variable {G : Sig}

def ArgT (G : Sig) : List PSh → Type
  | [] => Unit
  | s :: t => s.T G × ArgT G t
def giveA : (s : List PSh) → ArgT G s → List (Pv G.T)
  | [], _ => []
  | s :: t, x => s.give x.1 :: giveA t x.2
def none' : Nat → Option (Blk G.T) := fun _ => none
def takeA : (s : List PSh) → List (Pv G.T) → Option (ArgT G s)
  | [], [] => some ()
  | s :: t, a :: as => match s.take none' a, takeA t as with
    | some x, some y => match x.nm with | [] => some (x.x, y) | _ => none
    | _, _ => none
  | _, _ => none
/-- A function: the shapes of its arguments, its ways out, what it comes to, where its results stand. -/
structure FnE (G : Sig) where
  sh : List PSh
  E : List (Ex × Spec)
  F : ArgT G sh → Option (SumE G E)
  rs : List ResultVar
def finR (rs : List ResultVar) (p : Ex × St G) : Option (Sv G.T × List (Nat × Blk G.T)) := match p.1 with
  | .exit _ => none
  | _ => match resS p.2 rs with
    | some s => collect s (get p.2.hp)
    | none => none
def findF : List (Nat × FnE G) → Nat → Option (FnE G)
  | [], _ => none
  | p :: t, g => bif Nat.beq p.1 g then some p.2 else findF t g
def callE (e : FnE G) (args : List (Pv G.T)) : M (Sv G.T × List (Nat × Blk G.T)) := fun _ k => match takeA e.sh args with
  | some x => (e.F x).bind fun y => caseE e.E y fun p => (finR e.rs p).bind k
  | none => none
def tblOf (l : List (Nat × FnE G)) (g : Nat) (args : List (Pv G.T)) : M (Sv G.T × List (Nat × Blk G.T)) := fun R k => match findF l g with
  | some e => callE e args R k
  | none => none
/-- What a function comes to, by the evaluator. -/
def endC (cf : CallF G) (lp : Nat → St G → M (Ex × St G)) (kl : Nat → List Nat) (jn : Nat → Option (List (Ex × Spec))) (nt : Nat) (body : Code) (sh : List PSh) (E : List (Ex × Spec)) (x : ArgT G sh) : Option (SumE G E) :=
  runC cf nt (drawnX cf nt) lp kl jn 0 body ⟨zipN 0 ((giveA sh x).map .p), [], []⟩ _ fun p => takeE E p.1 p.2

theorem law_callE (e : FnE G) (args : List (Pv G.T)) : Law (callE e args) := by
  intro R k
  unfold callE
  cases takeA e.sh args with
  | none => rfl
  | some x =>
    simp only
    cases e.F x with
    | none => rfl
    | some y =>
      show caseE e.E y (fun p => (finR e.rs p).bind k) = (caseE e.E y (fun p => (finR e.rs p).bind some)).bind k
      rw [caseE_law, caseE_law e.E y (fun p => (finR e.rs p).bind some)]
      cases caseE e.E y some with
      | none => rfl
      | some p =>
        show (finR e.rs p).bind k = ((finR e.rs p).bind some).bind k
        cases finR e.rs p <;> rfl

theorem takeA_sound {S : Nat → Prop} {w : World} (hS : ∀ b, S b → b < w.heap.size) : ∀ (s : List PSh) (args : List (Pv G.T)) (x : ArgT G s), takeA s args = some x → s.all (PSh.fix []) = true → ∀ vals : List Value, F2 (Rp G (fun _ => none) S w.heap) args vals →
    F2 (Rp G (fun _ => none) S w.heap) (giveA s x) vals
  | [], [], x, _, _, vals, h => by rw [h.inv_nil]; exact .nil
  | [], _ :: _, _, h, _, _, _ => by simp [takeA] at h
  | _ :: _, [], _, h, _, _, _ => by simp [takeA] at h
  | s :: t, a :: as, x, h, hf, vals, hv => by
    simp only [takeA] at h
    split at h
    · rename_i y z hy hz
      split at h
      · rename_i hnm
        have h : (y.x, z) = x := Option.some.inj h
        subst h
        simp only [List.all_cons, Bool.and_eq_true] at hf
        obtain ⟨v, vs, rfl, h1, h2⟩ := hv.inv
        have hr : HRel G (fun _ => none) S (fun _ => True) (none' : Nat → Option (Blk G.T)) w :=
          ⟨fun n k hk => by simp [none'] at hk, fun n m x y b hn => by simp [none'] at hn, fun n x b hn => by simp [none'] at hn, hS⟩
        have rn : Ren (fun _ => none) (fun _ => none) S S (none' : Nat → Option (Blk G.T)) [] y.nm y.fz :=
          ⟨by rw [hnm]; simp, by simp, fun n _ hh => absurd rfl hh, fun _ h => h⟩
        exact (takeA_sound hS t as z hz hf.2 vs h2).cons (PSh.take_sound hr hy hf.1 rn h1).1
      · simp at h
    · simp at h

section
variable {P : Program} (ok : SigOK P G) (eqok : EqOK P G)
theorem FnV.args {g : Nat} {sh : List PSh} {args : List (Pv G.T)} {x : ArgT G sh} {s : Sv G.T} {r : List (Nat × Blk G.T)} (hf : sh.all (PSh.fix []) = true) (hx : takeA sh args = some x) (h : FnV P G g (giveA sh x) s r) : FnV P G g args s r :=
  ⟨h.1, fun S w vals hS hv => h.2 S w vals hS (takeA_sound hS sh args x hx hf vals hv)⟩

theorem law_tblOf (l : List (Nat × FnE G)) (g : Nat) (args : List (Pv G.T)) : Law (tblOf l g args) := by
  intro R k
  unfold tblOf
  cases findF l g with
  | none => rfl
  | some e => exact law_callE e args R k
theorem tbl_nil : TblOK P G (tblOf []) := ⟨law_tblOf [], fun g args s r h => by simp [tblOf, findF] at h⟩

include ok eqok in
theorem tbl_cons {l : List (Nat × FnE G)} (hT : TblOK P G (tblOf l)) (hm : P.follows .mixedOrders = true) {g : Nat} {e : FnE G} {fn : Func} {body : Code} (hfn : P.funcs[g]? = some fn) (hname : (fn.name == "runtime.NumGoroutine") = false) (hbody : fn.body = some body)
    (hrs : fn.results.toList = e.rs) (hlen : e.sh.length ≤ fn.ntmps) (hfix : e.sh.all (PSh.fix []) = true) {lp : Nat → St G → M (Ex × St G)} {kl : Nat → List Nat} {jn : Nat → Option (List (Ex × Spec))}
    (hl : ∀ (k : Nat) c', (loops body)[k]? = some c' → LoopOK P G fn.ntmps (lp k) c') (hF : ∀ x y, e.F x = some y → endC (cfV (tblOf l)) lp kl jn fn.ntmps body e.sh e.E x = some y) : TblOK P G (tblOf ((g, e) :: l)) := by
  refine ⟨law_tblOf _, fun g' args s r h => ?_⟩
  unfold tblOf at h
  simp only [findF, beq_ite] at h
  by_cases hg : g = g'
  · subst hg
    rw [if_pos rfl] at h
    simp only [callE] at h
    cases hx : takeA e.sh args with
    | none => rw [hx] at h; simp at h
    | some x =>
      rw [hx] at h
      simp only at h
      cases hy : e.F x with
      | none => rw [hy] at h; simp at h
      | some y =>
        rw [hy] at h
        have h : caseE e.E y (fun p => (finR e.rs p).bind some) = some (s, r) := h
        refine FnV.args hfix hx ?_
        have hlenA : ∀ (sh : List PSh) (x : ArgT G sh), (giveA sh x).length = sh.length := by
          intro sh
          induction sh with
          | nil => intro _; rfl
          | cons s t ih => intro x; simp [giveA, ih]
        have dok := drawnX_ok ok eqok (cfV_ok ok hT) (cfV_loc hT.law) (nt := fn.ntmps) hm
        refine fnV_of_run ok eqok (cfV_ok ok hT) (drawn := fun nt => drawnX (cfV (tblOf l)) nt) (lp := lp) (kl := kl) (jn := jn) (je := some e.E) hfn hname hbody (by rw [hlenA]; exact hlen) dok hl ?_
        show (endC (cfV (tblOf l)) lp kl jn fn.ntmps body e.sh e.E x).bind (fun y => caseE e.E y _) = some (s, r)
        rw [hF x y hy]
        show caseE e.E y _ = some (s, r)
        rw [caseE_law] at h ⊢
        cases hc : caseE e.E y some with
        | none => rw [hc] at h; simp at h
        | some p =>
          rw [hc] at h
          have h : (finR e.rs p).bind some = some (s, r) := h
          unfold finR at h
          rw [← hrs] at h
          obtain ⟨ex, st⟩ := p
          cases ex with
          | exit i => simp at h
          | normal =>
            simp only at h
            cases hs : resS st fn.results.toList with
            | none => rw [hs] at h; simp at h
            | some s0 =>
              rw [hs] at h
              have h : (collect s0 (get st.hp)).bind some = some (s, r) := h
              simp only [Option.bind, M.bind, M.opt, hs, M.ret]
              cases hcol : collect s0 (get st.hp) with
              | none => rw [hcol] at h; simp at h
              | some q => rw [hcol] at h; simpa using h
          | ret =>
            simp only at h
            cases hs : resS st fn.results.toList with
            | none => rw [hs] at h; simp at h
            | some s0 =>
              rw [hs] at h
              have h : (collect s0 (get st.hp)).bind some = some (s, r) := h
              simp only [Option.bind, M.bind, M.opt, hs, M.ret]
              cases hcol : collect s0 (get st.hp) with
              | none => rw [hcol] at h; simp at h
              | some q => rw [hcol] at h; simpa using h
  · rw [if_neg hg] at h
    exact hT.fn g' args s r h
end
end Go.Ab
