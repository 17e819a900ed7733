/- Contracts of functions over values, and the calls by them. -/
import Derived.Test.YtfooilbkiclplaaAb15
import Derived.Below
namespace Go.Ab
variable {G : Sig}

/-! ### Names of a result are counted anew -/
def Cv.mapN {T : Nat → Type} (f : Nat → Option Nat) : Cv T → Option (Cv T)
  | .own n => match f n with | some m => some (.own m) | none => none
  | .sc v => some (.sc v)
  | .ro t l => some (.ro t l)
  | _ => none
def Pv.mapN {T : Nat → Type} (f : Nat → Option Nat) : Pv T → Option (Pv T)
  | .one c => match c.mapN f with | some c => some (.one c) | none => none
  | .agg cs => match mapO (Cv.mapN f) cs with | some cs => some (.agg cs) | none => none
def Sv.mapN {T : Nat → Type} (f : Nat → Option Nat) : Sv T → Option (Sv T)
  | .p x => match x.mapN f with | some x => some (.p x) | none => none
  | .tup xs => match mapO (Pv.mapN f) xs with | some xs => some (.tup xs) | none => none
def Sv.cells {T : Nat → Type} : Sv T → List (Cv T)
  | .p x => x.cells
  | .tup xs => xs.flatMap Pv.cells
def ownsIn {T : Nat → Type} : List (Cv T) → List Nat → List Nat
  | [], acc => acc
  | .own n :: t, acc => bif has acc n then ownsIn t acc else ownsIn t (acc ++ [n])
  | _ :: t, acc => ownsIn t acc
def indexOf : List Nat → Nat → Nat → Option Nat
  | [], _, _ => none
  | k :: t, n, i => bif Nat.beq k n then some i else indexOf t n (i + 1)
def rowsOf (hp : Nat → Option (Blk G.T)) : List Nat → Nat → Option (List (Nat × Blk G.T))
  | [], _ => some []
  | n :: t, i => match hp n, rowsOf hp t (i + 1) with
    | some (.row u l), some r => some ((i, .row u l) :: r)
    | _, _ => none
def collect (s : Sv G.T) (hp : Nat → Option (Blk G.T)) : Option (Sv G.T × List (Nat × Blk G.T)) :=
  match s.mapN (fun n => indexOf (ownsIn s.cells []) n 0), rowsOf hp (ownsIn s.cells []) 0 with
  | some s', some r => some (s', r)
  | _, _ => none

theorem indexOf_spec : ∀ (l : List Nat) (n i m : Nat), indexOf l n i = some m → i ≤ m ∧ l[m - i]? = some n
  | [], n, i, m, h => by simp [indexOf] at h
  | k :: t, n, i, m, h => by
    simp only [indexOf, beq_ite] at h
    by_cases e : k = n
    · simp [e] at h; subst h; simp [e]
    · rw [if_neg e] at h
      obtain ⟨h1, h2⟩ := indexOf_spec t n (i + 1) m h
      exact ⟨by omega, by rw [show m - i = (m - (i + 1)) + 1 by omega]; simpa using h2⟩
theorem rowsOf_spec {hp : Nat → Option (Blk G.T)} : ∀ (l : List Nat) (i : Nat) (r : List (Nat × Blk G.T)), rowsOf hp l i = some r →
    ∀ j k, get r j = some k → i ≤ j ∧ ∃ n, l[j - i]? = some n ∧ hp n = some k
  | [], i, r, h, j, k, hk => by simp [rowsOf] at h; subst h; simp [get] at hk
  | n :: t, i, r, h, j, k, hk => by
    simp only [rowsOf] at h
    split at h
    · rename_i u l r' hn hr
      simp at h; subst h
      simp only [get, beq_ite] at hk
      by_cases e : i = j
      · rw [if_pos e] at hk; simp at hk; subst hk; subst e
        exact ⟨Nat.le_refl _, n, by simp, hn⟩
      · rw [if_neg e] at hk
        obtain ⟨h1, m, h2, h3⟩ := rowsOf_spec t (i + 1) r' hr j k hk
        exact ⟨by omega, m, by rw [show j - i = (j - (i + 1)) + 1 by omega]; simpa using h2, h3⟩
    · simp at h
theorem ownsIn_nodup {T : Nat → Type} : ∀ (cs : List (Cv T)) (acc : List Nat), acc.Nodup → (ownsIn cs acc).Nodup
  | [], acc, h => h
  | c :: t, acc, h => by
    cases c with
    | own n =>
      simp only [ownsIn]
      cases hb : has acc n with
      | true => exact ownsIn_nodup t acc h
      | false =>
        refine ownsIn_nodup t _ ?_
        have : n ∉ acc := fun hm => by rw [(has_iff acc n).2 hm] at hb; simp at hb
        rw [List.nodup_append]
        exact ⟨h, by simp, fun a ha b hb' => by simp at hb'; subst hb'; exact fun e => this (e ▸ ha)⟩
    | _ => exact ownsIn_nodup t acc h

section
variable {ν ν' : Nat → Option Value} {S : Nat → Prop} {h : Array Obj} {f : Nat → Option Nat} (hf : ∀ n m x, f n = some m → ν n = some x → ν' m = some x)
include hf
theorem rc_mapN {c c' : Cv G.T} (hc : c.mapN f = some c') {v : Value} (r : Rc G ν S h c v) : Rc G ν' S h c' v := by
  cases c with
  | own n =>
    simp only [Cv.mapN] at hc
    split at hc
    · rename_i m hm
      simp at hc; subst hc
      obtain ⟨a, len, cap, h1, h2⟩ := r
      exact ⟨a, len, cap, hf n m _ hm h1, h2⟩
    · simp at hc
  | sc v => simp [Cv.mapN] at hc; subst hc; exact r
  | ro t l => simp [Cv.mapN] at hc; subst hc; exact r
  | _ => simp [Cv.mapN] at hc
theorem rp_mapN {x x' : Pv G.T} (hc : x.mapN f = some x') {v : Value} (r : Rp G ν S h x v) : Rp G ν' S h x' v := by
  cases r with
  | one c v hrc =>
    simp only [Pv.mapN] at hc
    split at hc
    · rename_i c' hc'; simp at hc; subst hc; exact .one _ _ (rc_mapN hf hc' hrc)
    · simp at hc
  | agg cs vs hrc =>
    simp only [Pv.mapN] at hc
    split at hc
    · rename_i cs' hcs; simp at hc; subst hc
      obtain ⟨m1, m2⟩ := mapO_spec _ _ hcs
      refine .agg _ _ ⟨by rw [m1]; exact hrc.1, fun i x y hx hy => ?_⟩
      have hi : i < cs.length := by have := (List.getElem?_eq_some_iff.1 hx).1; omega
      obtain ⟨z, hz, hfz⟩ := m2 i _ (List.getElem?_eq_getElem hi)
      rw [hx] at hz; simp at hz; subst hz
      exact rc_mapN hf hfz (hrc.2 i _ y (List.getElem?_eq_getElem hi) hy)
    · simp at hc
theorem rs_mapN {x x' : Sv G.T} (hc : x.mapN f = some x') {v : Value} (r : Rs G ν S h x v) : Rs G ν' S h x' v := by
  cases r with
  | p c v hrc =>
    simp only [Sv.mapN] at hc
    split at hc
    · rename_i c' hc'; simp at hc; subst hc; exact .p _ _ (rp_mapN hf hc' hrc)
    · simp at hc
  | tup cs vs hrc =>
    simp only [Sv.mapN] at hc
    split at hc
    · rename_i cs' hcs; simp at hc; subst hc
      obtain ⟨m1, m2⟩ := mapO_spec _ _ hcs
      refine .tup _ _ ⟨by rw [m1]; exact hrc.1, fun i x y hx hy => ?_⟩
      have hi : i < cs.length := by have := (List.getElem?_eq_some_iff.1 hx).1; omega
      obtain ⟨z, hz, hfz⟩ := m2 i _ (List.getElem?_eq_getElem hi)
      rw [hx] at hz; simp at hz; subst hz
      exact rp_mapN hf hfz (hrc.2 i _ y (List.getElem?_eq_getElem hi) hy)
    · simp at hc
end
/-- A block of a name is a row: its handle counts, not its name. -/
theorem rb_row {ν ν' : Nat → Option Value} {S : Nat → Prop} {h : Array Obj} {n m t : Nat} {l : List (G.T t)} (he : ν' m = ν n) (r : Rb G ν S h n (.row t l)) : Rb G ν' S h m (.row t l) := by
  rcases r with ⟨h1, h2⟩ | ⟨b, cap, c, te, h1, h2⟩
  · exact .inl ⟨he.trans h1, h2⟩
  · exact .inr ⟨b, cap, c, te, he.trans h1, h2⟩

/-! ### Contracts -/
def Entr (P : Program) (g : Nat) : Prop := ∃ fn, P.funcs[g]? = some fn ∧ (fn.name == "runtime.NumGoroutine") = false ∧ fn.body.isNone = false
/-- 'g', called with these, returns this, and leaves all that was there as it was. -/
def FnV (P : Program) (G : Sig) (g : Nat) (args : List (Pv G.T)) (s : Sv G.T) (hp' : List (Nat × Blk G.T)) : Prop :=
  Entr P g ∧ ∀ (S : Nat → Prop) (w : World) (vals : List Value), (∀ b, S b → b < w.heap.size) → F2 (Rp G (fun _ => none) S w.heap) args vals →
    Calls P g vals.toArray w fun e w' => ∃ v ν' S', e = .returned v ∧ (∀ b, S b → S' b) ∧ (∀ b, S' b → S b ∨ w.heap.size ≤ b) ∧
      HRel G ν' S' (fun b => w.heap.size ≤ b) (get hp') w' ∧ (∀ n, ν' n ≠ none → get hp' n ≠ none) ∧ Rs G ν' S' w'.heap s v ∧ RowKit.Below w.heap.size w w'

section
variable {P : Program} (ok : SigOK P G) (eqok : EqOK P G) {cf : CallF G} (cfok : CfOK P G cf) {drawn : Nat → Array Oper → St G → M (St G)}
  {lp : Nat → St G → M (Ex × St G)} {kl : Nat → List Nat} {jn : Nat → Option (List (Ex × Spec))} {je : Option (List (Ex × Spec))}
theorem get_zipN {α : Type} : ∀ (l : List α) (n k : Nat), get (zipN n l) k = if n ≤ k then l[k - n]? else none
  | [], n, k => by simp [zipN, get]
  | x :: t, n, k => by
    simp only [zipN, get, beq_ite, get_zipN t (n + 1) k]
    by_cases e : n = k
    · subst e; simp
    · rw [if_neg e]
      by_cases h : n ≤ k
      · rw [if_pos h, if_pos (by omega), show k - n = (k - (n + 1)) + 1 by omega]; simp
      · rw [if_neg h, if_neg (by omega)]

include ok eqok cfok in
/-- A contract by the evaluator. -/
theorem fnV_of_run {g : Nat} {fn : Func} {body : Code} (hfn : P.funcs[g]? = some fn) (hname : (fn.name == "runtime.NumGoroutine") = false) (hbody : fn.body = some body) {args : List (Pv G.T)} (hargs : args.length ≤ fn.ntmps)
    (dok : DrawOK P G fn.ntmps (drawn fn.ntmps)) (hl : ∀ (k : Nat) c', (loops body)[k]? = some c' → LoopOK P G fn.ntmps (lp k) c') {s : Sv G.T} {r : List (Nat × Blk G.T)}
    (h : M.bind (runF cf drawn lp kl jn je fn.ntmps body fn.results.toList args [] []) (fun p => M.opt (collect p.1 (get p.2.hp))) _ some = some (s, r)) : FnV P G g args s r := by
  refine ⟨⟨fn, hfn, hname, by rw [hbody]; rfl⟩, fun S w vals hS hvals => ?_⟩
  have hl0 : ∀ (k : Nat) c', (loops body)[k]? = some c' → LoopOK P G fn.ntmps (lp (0 + k)) c' := fun k c' hk => by rw [Nat.zero_add]; exact hl k c' hk
  unfold runF at h
  have hlaw := law_runC cfok dok (kl := kl) (jn := jn) body 0 ⟨zipN 0 (args.map .p), [], []⟩ hl0
  obtain ⟨⟨ex, st'⟩, h0, h2⟩ := (law_cutO hlaw).spec (M.bind_spec (M.bind_spec h))
  obtain ⟨st0, h1, hcut⟩ := cutO_spec hlaw h0
  have hres : ∃ s0, resS st' fn.results.toList = some s0 ∧ collect s0 (get st'.hp) = some (s, r) ∧ ∀ i, ex ≠ .exit i := by
    cases ex with
    | exit i => simp [M.fail] at h2
    | normal =>
      obtain ⟨s0, hs0, h3⟩ := M.bindopt h2
      obtain ⟨q, hq, h4⟩ := M.opt_spec (show M.opt (collect s0 (get st'.hp)) _ some = some (s, r) from h3)
      simp at h4; subst h4
      exact ⟨s0, hs0, hq, by simp⟩
    | ret =>
      obtain ⟨s0, hs0, h3⟩ := M.bindopt h2
      obtain ⟨q, hq, h4⟩ := M.opt_spec (show M.opt (collect s0 (get st'.hp)) _ some = some (s, r) from h3)
      simp at h4; subst h4
      exact ⟨s0, hs0, hq, by simp⟩
  obtain ⟨s0, hs0, hcol, hex⟩ := hres
  let cx : Cx := ⟨w, fun _ => False, S, fun _ => none, fn.ntmps⟩
  have hvlen : vals.length = args.length := hvals.1.symm
  have hrel0 : Rel G cx ⟨zipN 0 (args.map .p), [], []⟩ { tmps := vals.toArray ++ Array.replicate (fn.ntmps - vals.toArray.size) undef, defers := [] } w := by
    refine ⟨fun _ => none, S, fun k t hk => ?_, ⟨fun n k hk => by simp [get] at hk, fun n m x y b hn => by simp [get] at hn, fun n x b hn => by simp [get] at hn, hS⟩, fun n hn => by simp at hn, rfl, (by show _ = fn.ntmps; simp; omega), Nat.le_refl _, fun _ _ _ => rfl, ⟨rfl, rfl, rfl⟩, fun b hb => .inl hb, fun _ h => h, fun n x hn => by cases hn⟩
    rw [get_zipN] at hk
    simp at hk
    obtain ⟨x, hx, rfl⟩ := hk
    obtain ⟨v, hv, hrp⟩ := hvals.get hx
    have hkl : k < vals.length := (List.getElem?_eq_some_iff.1 hv).1
    have : (vals.toArray ++ Array.replicate (fn.ntmps - vals.toArray.size) undef).getD k undef = v := by
      rw [Array.getD_eq_getD_getElem?, Array.getElem?_append_left (by simpa using hkl)]
      simp [hv]
    rw [this]
    exact .p _ _ hrp
  refine calls_of_wp hfn hbody (runC_sound ok eqok cfok dok (cx := cx) rfl (fun n y h => by cases h) body 0 _ st0 ex _ w _ hl0 h1 hrel0 fun e a' w' he r'' => ?_)
  have r' := hcut (cx := cx) (fun n y h => by cases h) r''
  obtain ⟨ν', S', r'⟩ := r'
  obtain ⟨v, hrun, hv⟩ := results_run ok r' hs0
  -- the names anew
  unfold collect at hcol
  split at hcol
  · rename_i s1 rr hs1 hrr
    simp at hcol
    obtain ⟨rfl, rfl⟩ := hcol
    let ns := ownsIn s0.cells []
    have hnd : ns.Nodup := ownsIn_nodup _ _ (by simp)
    let ν2 : Nat → Option Value := fun j => match ns[j]? with | some n => (match get rr j with | some _ => ν' n | none => none) | none => none
    have hget : ∀ j k, get rr j = some k → ∃ n, ns[j]? = some n ∧ get st'.hp n = some k := by
      intro j k hk
      obtain ⟨_, n, h1, h2⟩ := rowsOf_spec _ _ _ hrr j k hk
      exact ⟨n, by simpa using h1, h2⟩
    have hrows : ∀ (l : List Nat) (i : Nat) (r : List (Nat × Blk G.T)), rowsOf (get st'.hp) l i = some r → ∀ (j : Nat), j < l.length → ∃ u l', get r (i + j) = some (.row u l') := by
      intro l
      induction l with
      | nil => intro i r _ j hj; simp at hj
      | cons n t ih =>
        intro i r hr j hj
        simp only [rowsOf] at hr
        split at hr
        · rename_i u l r2 hn hr2
          simp at hr; subst hr
          simp only [get, beq_ite]
          cases j with
          | zero => exact ⟨u, l, by simp⟩
          | succ j =>
            rw [if_neg (by omega), show i + (j + 1) = (i + 1) + j by omega]
            exact ih (i + 1) r2 hr2 j (by simpa using hj)
        · simp at hr
    have hν2 : ∀ j n, ns[j]? = some n → ν2 j = ν' n := by
      intro j n hn
      have hj : j < ns.length := (List.getElem?_eq_some_iff.1 hn).1
      obtain ⟨u, l', hr⟩ := hrows ns 0 rr hrr j hj
      rw [Nat.zero_add] at hr
      simp only [ν2, hn, hr]
    have hheap : HRel G ν2 S' (fun b => w.heap.size ≤ b) (get rr) w' := by
      have hw0 : ∀ b, cx.own b → w.heap.size ≤ b := fun b hb => hb.resolve_left (by simp [cx])
      refine ⟨fun j k hk => ?_, fun j j' x y b h1 h2 h3 h4 h5 h6 => ?_, fun j x b h1 h2 h3 => ?_, r'.heap.stay⟩
      · obtain ⟨n, hn, hnk⟩ := hget j k hk
        have hrb := r'.heap.blk n k hnk
        have hj : j < ns.length := (List.getElem?_eq_some_iff.1 hn).1
        obtain ⟨u, l', hr⟩ := hrows ns 0 rr hrr j hj
        rw [Nat.zero_add, hk] at hr
        simp at hr; subst hr
        exact rb_row (hν2 j n hn) hrb
      · obtain ⟨k, hk⟩ := Option.ne_none_iff_exists'.1 h1
        obtain ⟨k', hk'⟩ := Option.ne_none_iff_exists'.1 h2
        obtain ⟨n, hn, hnk⟩ := hget j k hk
        obtain ⟨n', hn', hnk'⟩ := hget j' k' hk'
        rw [hν2 j n hn] at h3
        rw [hν2 j' n' hn'] at h4
        have := r'.heap.apart n n' x y b (by simp [hnk]) (by simp [hnk']) h3 h4 h5 h6
        subst this
        obtain ⟨hj, e1⟩ := List.getElem?_eq_some_iff.1 hn
        obtain ⟨hj', e2⟩ := List.getElem?_eq_some_iff.1 hn'
        have hpw := List.pairwise_iff_getElem.1 hnd
        rcases Nat.lt_trichotomy j j' with hlt | rfl | hlt
        · exact absurd (e1.trans e2.symm) (hpw j j' hj hj' hlt)
        · rfl
        · exact absurd (e2.trans e1.symm) (hpw j' j hj' hj hlt)
      · obtain ⟨k, hk⟩ := Option.ne_none_iff_exists'.1 h1
        obtain ⟨n, hn, hnk⟩ := hget j k hk
        rw [hν2 j n hn] at h2
        obtain ⟨q1, q2⟩ := r'.heap.own n x b (by simp [hnk]) h2 h3
        exact ⟨q1, hw0 b q2⟩
    have hval : Rs G ν2 S' w'.heap s1 v := by
      refine rs_mapN (f := fun n => indexOf ns n 0) (fun n m x hm hx => ?_) hs1 hv
      obtain ⟨_, h2⟩ := indexOf_spec ns n 0 m hm
      rw [Nat.sub_zero] at h2
      rw [hν2 m n h2]; exact hx
    have hbelow : RowKit.Below w.heap.size w w' := ⟨r'.env.1, r'.env.2.1, r'.env.2.2, r'.size, fun b hb => r'.frame b hb (by simp [cx])⟩
    have hpost : bodyPost P fn (fun e w' => ∃ v ν' S', e = .returned v ∧ (∀ b, S b → S' b) ∧ (∀ b, S' b → S b ∨ w.heap.size ≤ b) ∧ HRel G ν' S' (fun b => w.heap.size ≤ b) (get rr) w' ∧ (∀ n, ν' n ≠ none → get rr n ≠ none) ∧ Rs G ν' S' w'.heap s1 v ∧ RowKit.Below w.heap.size w w') .ret a' w' := by
      refine ⟨r'.defers, v, hrun, v, ν2, S', rfl, r'.keep, fun b hb => (r'.sub b hb).imp id fun h => h.resolve_left (by simp [cx]), hheap, fun n hn => ?_, hval, hbelow⟩
      simp only [ν2] at hn
      split at hn
      · split at hn
        · rename_i h9; rw [h9]; simp
        · simp at hn
      · simp at hn
    cases ex with
    | normal => rw [exr_normal he]; exact hpost
    | ret => rw [exr_ret he]; exact hpost
    | exit i => exact absurd rfl (hex i)
  · simp at hcol
end
end Go.Ab
