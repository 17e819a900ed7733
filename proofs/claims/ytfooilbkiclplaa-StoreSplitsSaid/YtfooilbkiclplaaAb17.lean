/- Calls by contracts over values. -/
import Derived.Test.YtfooilbkiclplaaAb16
namespace Go.Ab
variable {G : Sig}

/-- An argument as it is handed on: an owned row by its content. -/
def bor (h : Nat → Option (Blk G.T)) : Cv G.T → Option (Cv G.T × List Nat)
  | .own n => match h n with | some (.row t l) => some (.ro t l, [n]) | _ => none
  | .sc v => some (.sc v, [])
  | .ro t l => some (.ro t l, [])
  | .rp t x o => some (.rp t x o, [])
  | .clo f [] [] => some (.clo f [] [], [])
  | _ => none
def borL (h : Nat → Option (Blk G.T)) : List (Cv G.T) → Option (List (Cv G.T) × List Nat)
  | [] => some ([], [])
  | c :: t => match bor h c, borL h t with
    | some (c', a), some (t', b) => some (c' :: t', a ++ b)
    | _, _ => none
def borP (h : Nat → Option (Blk G.T)) : Pv G.T → Option (Pv G.T × List Nat)
  | .one c => match bor h c with | some (c', a) => some (.one c', a) | none => none
  | .agg cs => match borL h cs with | some (cs', a) => some (.agg cs', a) | none => none
def borA (h : Nat → Option (Blk G.T)) : List (Pv G.T) → Option (List (Pv G.T) × List Nat)
  | [] => some ([], [])
  | c :: t => match borP h c, borA h t with
    | some (c', a), some (t', b) => some (c' :: t', a ++ b)
    | _, _ => none
def flatC {T : Nat → Type} : Cv T → Bool
  | .ro _ _ => false
  | _ => true
def flatB (G : Sig) : List (Nat × Blk G.T) → Bool
  | [] => true
  | (_, .row t _) :: r => G.flat t && flatB G r
  | (_, .cells _) :: _ => false
def shiftB (nm : Nat) : List (Nat × Blk G.T) → List (Nat × Option (Blk G.T))
  | [] => []
  | (n, k) :: t => (nm + n, some k) :: shiftB nm t
def names (nm : Nat) : List (Nat × Blk G.T) → List Nat
  | [] => []
  | (n, _) :: t => (nm + n) :: names nm t
def onlyRows : List (Nat × Blk G.T) → Bool
  | [] => true
  | (n, .row _ _) :: t => match get t n with | none => onlyRows t | some _ => false
  | _ => false
def emptyL : List Nat → Bool
  | [] => true
  | _ => false

/-- The calls by a table of contracts. -/
def cfV (tbl : Nat → List (Pv G.T) → M (Sv G.T × List (Nat × Blk G.T))) : CallF G := fun g args h nm =>
  M.bind (M.opt (borA h args)) fun ab => M.bind (tbl g ab.1) fun sr =>
    M.bind (M.need (onlyRows sr.2 && (emptyL ab.2 || (sr.1.cells.all flatC && flatB G sr.2)))) fun _ =>
    M.bind (M.opt (sr.1.mapN fun n => some (nm + n))) fun s => M.ret ⟨some s, shiftB nm sr.2, names nm sr.2, ab.2⟩

structure TblOK (P : Program) (G : Sig) (tbl : Nat → List (Pv G.T) → M (Sv G.T × List (Nat × Blk G.T))) : Prop where
  law : ∀ g args, Law (tbl g args)
  fn : ∀ g args s r, tbl g args _ some = some (s, r) → FnV P G g args s r

theorem appD_shift (nm : Nat) : ∀ (r : List (Nat × Blk G.T)) (h : Nat → Option (Blk G.T)) (n : Nat), onlyRows r = true →
    appD h (shiftB nm r) n = if nm ≤ n then (match get r (n - nm) with | some k => some k | none => h n) else h n
  | [], h, n, _ => by simp [shiftB, appD, get]
  | (m, k) :: t, h, n, ho => by
    have hrow : get t m = none ∧ onlyRows t = true := by
      cases k with
      | cells cs => simp [onlyRows] at ho
      | row u l =>
        simp only [onlyRows] at ho
        split at ho
        · rename_i h1; exact ⟨h1, ho⟩
        · simp at ho
    simp only [shiftB, appD, appD_shift nm t _ n hrow.2]
    by_cases hle : nm ≤ n
    · simp only [hle, if_true, get, beq_ite]
      by_cases e : m = n - nm
      · rw [if_pos e, ← e, hrow.1]
        simp; omega
      · rw [if_neg e]
        cases get t (n - nm) with
        | some k' => rfl
        | none => simp; intro h9; omega
    · simp only [hle, if_false]
      rw [if_neg (by omega)]
theorem mem_names (nm : Nat) : ∀ (r : List (Nat × Blk G.T)) (n : Nat), n ∈ names nm r ↔ nm ≤ n ∧ get r (n - nm) ≠ none
  | [], n => by simp [names, get]
  | (m, k) :: t, n => by
    simp only [names, List.mem_cons, mem_names nm t n, get, beq_ite]
    by_cases e : m = n - nm
    · rw [if_pos e]; simp; constructor
      · rintro (h | ⟨h, _⟩) <;> omega
      · intro h; left; omega
    · rw [if_neg e]; constructor
      · rintro (h | h)
        · omega
        · exact h
      · exact .inr

section
variable {P : Program} (ok : SigOK P G)
theorem borA_sound {ν : Nat → Option Value} {S B : Nat → Prop} {h : Nat → Option (Blk G.T)} {w : World} (hr : HRel G ν S B h w) {args args' : List (Pv G.T)} {bs : List Nat} (hb : borA h args = some (args', bs))
    {S1 : Nat → Prop} (hS1 : ∀ b, S b → S1 b) (hbs : ∀ n ∈ bs, ∀ x b, ν n = some x → blkOf x = some b → S1 b) {vals : List Value} (hv : F2 (Rp G ν S w.heap) args vals) :
    F2 (Rp G (fun _ => none) S1 w.heap) args' vals := by
  have cell : ∀ (c c' : Cv G.T) (a : List Nat) (v : Value), bor h c = some (c', a) → (∀ n ∈ a, n ∈ bs) → Rc G ν S w.heap c v → Rc G (fun _ => none) S1 w.heap c' v := by
    intro c c' a v hc ha r
    cases c with
    | own n =>
      simp only [bor] at hc
      split at hc
      · rename_i t l hn
        simp at hc; obtain ⟨rfl, rfl⟩ := hc
        obtain ⟨av, len, cap, hν, rfl⟩ := r
        rcases hr.blk n _ hn with ⟨h1, h2⟩ | ⟨b, cap', c, te, h1, h2, h3, h4, h5⟩
        · rw [hν] at h1; simp at h1; obtain ⟨rfl, rfl, rfl⟩ := h1
          subst h2
          exact .nil _ _ _
        · rw [hν] at h1; simp at h1; obtain ⟨rfl, rfl, rfl⟩ := h1
          have hSb : S1 b := hbs n (ha n (by simp)) _ b hν rfl
          show Rd G S1 w.heap (.ro t l) _
          refine .ro t l b 0 cap c te (0, 0) (fun i j => c.getD (i * G.sz t + j) undef) hSb h2 h3 (fun i j hi hj => ?_) (fun i j x cv hx hcv => ?_)
          · have hm : (i + 1) * G.sz t ≤ cap * G.sz t := Nat.mul_le_mul_right _ (by omega)
            rw [Nat.add_mul] at hm
            have hlt : i * G.sz t + j < c.size := by omega
            rw [Nat.zero_add]; simp [hlt]
          · obtain ⟨v, hv, hrd⟩ := h5.1 i j x cv hx hcv
            have : c.getD (i * G.sz t + j) undef = v := by rw [Array.getD_eq_getD_getElem?, hv]; rfl
            rw [this]
            exact hrd.mono hS1 fun _ _ => rfl
      · simp at hc
    | sc v0 => simp [bor] at hc; obtain ⟨rfl, rfl⟩ := hc; exact Rd.mono hS1 (fun _ _ => rfl) r
    | ro t l => simp [bor] at hc; obtain ⟨rfl, rfl⟩ := hc; exact Rd.mono hS1 (fun _ _ => rfl) r
    | rp t x o => simp [bor] at hc; obtain ⟨rfl, rfl⟩ := hc; exact Rd.mono hS1 (fun _ _ => rfl) r
    | clo f p q =>
      cases p <;> cases q <;> simp [bor] at hc
      obtain ⟨rfl, rfl⟩ := hc
      obtain ⟨vp, vq, h1, h2, h3⟩ := r
      exact ⟨vp, vq, h1, by rw [h2.inv_nil]; exact .nil, by rw [h3.inv_nil]; exact .nil⟩
    | ptr n off => simp [bor] at hc
    | pd n off s len i => simp [bor] at hc
    | pr n t i off => simp [bor] at hc
  have cells : ∀ (cs cs' : List (Cv G.T)) (a : List Nat) (vs : List Value), borL h cs = some (cs', a) → (∀ n ∈ a, n ∈ bs) → F2 (Rc G ν S w.heap) cs vs → F2 (Rc G (fun _ => none) S1 w.heap) cs' vs := by
    intro cs
    induction cs with
    | nil => intro cs' a vs hc _ r; simp [borL] at hc; obtain ⟨rfl, _⟩ := hc; rw [r.inv_nil]; exact .nil
    | cons c t ih =>
      intro cs' a vs hc ha r
      simp only [borL] at hc
      split at hc
      · rename_i c' a1 t' a2 h1 h2
        simp at hc; obtain ⟨rfl, rfl⟩ := hc
        obtain ⟨v, vs', rfl, hv, hvs⟩ := r.inv
        exact (ih t' a2 vs' h2 (fun n hn => ha n (by simp [hn])) hvs).cons (cell c c' a1 v h1 (fun n hn => ha n (by simp [hn])) hv)
      · simp at hc
  have pv : ∀ (x x' : Pv G.T) (a : List Nat) (v : Value), borP h x = some (x', a) → (∀ n ∈ a, n ∈ bs) → Rp G ν S w.heap x v → Rp G (fun _ => none) S1 w.heap x' v := by
    intro x x' a v hx ha r
    cases r with
    | one c v hc =>
      simp only [borP] at hx
      split at hx
      · rename_i c' a1 h1; simp at hx; obtain ⟨rfl, rfl⟩ := hx; exact .one _ _ (cell c c' a1 v h1 ha hc)
      · simp at hx
    | agg cs vs hc =>
      simp only [borP] at hx
      split at hx
      · rename_i c' a1 h1; simp at hx; obtain ⟨rfl, rfl⟩ := hx; exact .agg _ _ (cells cs c' a1 vs h1 ha hc)
      · simp at hx
  have all : ∀ (xs xs' : List (Pv G.T)) (a : List Nat) (vs : List Value), borA h xs = some (xs', a) → (∀ n ∈ a, n ∈ bs) → F2 (Rp G ν S w.heap) xs vs → F2 (Rp G (fun _ => none) S1 w.heap) xs' vs := by
    intro xs
    induction xs with
    | nil => intro xs' a vs hc _ r; simp [borA] at hc; obtain ⟨rfl, _⟩ := hc; rw [r.inv_nil]; exact .nil
    | cons c t ih =>
      intro cs' a vs hc ha r
      simp only [borA] at hc
      split at hc
      · rename_i c' a1 t' a2 h1 h2
        simp at hc; obtain ⟨rfl, rfl⟩ := hc
        obtain ⟨v, vs', rfl, hv, hvs⟩ := r.inv
        exact (ih t' a2 vs' h2 (fun n hn => ha n (by simp [hn])) hvs).cons (pv c c' a1 v h1 (fun n hn => ha n (by simp [hn])) hv)
      · simp at hc
  exact all args args' bs vals hb (fun _ h => h) hv

include ok in
theorem cfV_ok {tbl : Nat → List (Pv G.T) → M (Sv G.T × List (Nat × Blk G.T))} (hT : TblOK P G tbl) : CfOK P G (cfV tbl) := by
  refine ⟨fun g args h nm => law_bind (law_opt _) fun _ => law_bind (hT.law _ _) fun _ => law_bind (law_need _) fun _ => law_bind (law_opt _) fun _ => law_ret _, fun g args h nm out hout => ?_⟩
  unfold cfV at hout
  obtain ⟨⟨args', bs⟩, hb, h1⟩ := M.bindopt hout
  obtain ⟨⟨s, r⟩, hsr, h2⟩ := (hT.law g args').spec (M.bind_spec h1)
  obtain ⟨hn, h3⟩ := M.bindneed h2
  obtain ⟨s', hs', h4⟩ := M.bindopt h3
  simp [M.ret] at h4; subst h4
  obtain ⟨hent, hcall⟩ := hT.fn g args' s r hsr
  refine ⟨hent, fun ν S B w vals hr hB hfr hvals => ?_⟩
  simp only [Bool.and_eq_true, Bool.or_eq_true] at hn
  obtain ⟨hrows, hflat⟩ := hn
  let S1 : Nat → Prop := fun b => S b ∨ ∃ n x, n ∈ bs ∧ ν n = some x ∧ blkOf x = some b ∧ h n ≠ none
  have hbown : ∀ n ∈ bs, h n ≠ none := by
    -- what is borrowed is there
    have cell : ∀ (c c' : Cv G.T) (a : List Nat), bor h c = some (c', a) → ∀ n ∈ a, h n ≠ none := by
      intro c c' a hc n hn
      cases c with
      | own m =>
        simp only [bor] at hc
        split at hc
        · rename_i hm; simp at hc; obtain ⟨_, rfl⟩ := hc; simp at hn; subst hn; rw [hm]; simp
        · simp at hc
      | clo f p q => cases p <;> cases q <;> simp [bor] at hc; obtain ⟨_, rfl⟩ := hc; simp at hn
      | sc v => simp [bor] at hc; obtain ⟨_, rfl⟩ := hc; simp at hn
      | ro t l => simp [bor] at hc; obtain ⟨_, rfl⟩ := hc; simp at hn
      | rp t x o => simp [bor] at hc; obtain ⟨_, rfl⟩ := hc; simp at hn
      | _ => simp [bor] at hc
    have cells : ∀ (cs cs' : List (Cv G.T)) (a : List Nat), borL h cs = some (cs', a) → ∀ n ∈ a, h n ≠ none := by
      intro cs
      induction cs with
      | nil => intro cs' a hc n hn; simp [borL] at hc; obtain ⟨_, rfl⟩ := hc; simp at hn
      | cons c t ih =>
        intro cs' a hc n hn
        simp only [borL] at hc
        split at hc
        · rename_i c' a1 t' a2 e1 e2
          simp at hc; obtain ⟨_, rfl⟩ := hc
          rcases List.mem_append.1 hn with hn | hn
          · exact cell c c' a1 e1 n hn
          · exact ih t' a2 e2 n hn
        · simp at hc
    have pv : ∀ (x x' : Pv G.T) (a : List Nat), borP h x = some (x', a) → ∀ n ∈ a, h n ≠ none := by
      intro x x' a hx n hn
      cases x with
      | one c =>
        simp only [borP] at hx
        split at hx
        · rename_i c' a1 e1; simp at hx; obtain ⟨_, rfl⟩ := hx; exact cell c c' a1 e1 n hn
        · simp at hx
      | agg cs =>
        simp only [borP] at hx
        split at hx
        · rename_i c' a1 e1; simp at hx; obtain ⟨_, rfl⟩ := hx; exact cells cs c' a1 e1 n hn
        · simp at hx
    have all : ∀ (xs xs' : List (Pv G.T)) (a : List Nat), borA h xs = some (xs', a) → ∀ n ∈ a, h n ≠ none := by
      intro xs
      induction xs with
      | nil => intro cs' a hc n hn; simp [borA] at hc; obtain ⟨_, rfl⟩ := hc; simp at hn
      | cons c t ih =>
        intro cs' a hc n hn
        simp only [borA] at hc
        split at hc
        · rename_i c' a1 t' a2 e1 e2
          simp at hc; obtain ⟨_, rfl⟩ := hc
          rcases List.mem_append.1 hn with hn | hn
          · exact pv c c' a1 e1 n hn
          · exact ih t' a2 e2 n hn
        · simp at hc
    exact all args args' bs hb
  have hS1lt : ∀ b, S1 b → b < w.heap.size := by
    rintro b (hb | ⟨n, x, hn, hx, hbx, hnn⟩)
    · exact hr.stay b hb
    · exact hr.lt hnn hx hbx
  have hargs := borA_sound hr hb (S1 := S1) (fun b hb => .inl hb) (fun n hn x b hx hbx => .inr ⟨n, x, hn, hx, hbx, hbown n hn⟩) hvals
  refine (hcall S1 w vals hS1lt hargs).mono fun e w' ⟨v, ν2, S2, he, hk1, hk2, hheap, hdom, hval, hbel⟩ => ?_
  -- the names, and what is only read
  have hnew : ∀ n, n ∈ names nm r ↔ nm ≤ n ∧ get r (n - nm) ≠ none := mem_names nm r
  have hνn : ∀ n, nm ≤ n → get r (n - nm) ≠ none → ν n = none := fun n h1 h2 => hfr n ((hnew n).2 ⟨h1, h2⟩)
  let ν' : Nat → Option Value := fun n => if nm ≤ n ∧ get r (n - nm) ≠ none then ν2 (n - nm) else ν n
  have hνold : ∀ n x, ν n = some x → ν' n = some x := by
    intro n x hx
    simp only [ν']
    rw [if_neg ?_]
    · exact hx
    · rintro ⟨h1, h2⟩; rw [hνn n h1 h2] at hx; simp at hx
  have hνnew : ∀ m, get r m ≠ none → ν' (nm + m) = ν2 m := by
    intro m hm
    simp only [ν']
    rw [if_pos ⟨by omega, by rw [Nat.add_sub_cancel_left]; exact hm⟩, Nat.add_sub_cancel_left]
  obtain ⟨S3, h30, h31, h32, h33⟩ : ∃ S3 : Nat → Prop, (∀ b, S b → S3 b) ∧ (∀ b, S3 b → S b ∨ w.heap.size ≤ b) ∧ HRel G ν2 S3 (fun b => w.heap.size ≤ b) (get r) w' ∧ Rs G ν2 S3 w'.heap s v := by
    rcases hflat with hz | ⟨hz1, hz2⟩
    · have hbs0 : bs = [] := by cases bs with | nil => rfl | cons x t => simp [emptyL] at hz
      refine ⟨S2, fun b hb => hk1 b (.inl hb), fun b hb => ?_, hheap, hval⟩
      rcases hk2 b hb with (hb | ⟨n, x, hn, _⟩) | hb
      · exact .inl hb
      · rw [hbs0] at hn; simp at hn
      · exact .inr hb
    · refine ⟨S, fun _ h => h, fun _ h => .inl h, ⟨fun n k hn => ?_, hheap.apart, fun n x b h1 h2 h3 => ?_, fun b hb => Nat.lt_of_lt_of_le (hr.stay b hb) hbel.size⟩, ?_⟩
      · have hrb := hheap.blk n k hn
        have hfl : ∀ (r : List (Nat × Blk G.T)) (n : Nat) (k : Blk G.T), flatB G r = true → get r n = some k → ∃ t l, k = .row t l ∧ G.flat t = true := by
          intro r
          induction r with
          | nil => intro n k _ h; simp [get] at h
          | cons p t ih =>
            obtain ⟨m, k0⟩ := p
            intro n k hf h
            cases k0 with
            | cells cs => simp [flatB] at hf
            | row u l =>
              simp only [flatB, Bool.and_eq_true] at hf
              simp only [get, beq_ite] at h
              by_cases e : m = n
              · rw [if_pos e] at h; simp at h; subst h; exact ⟨u, l, rfl, hf.1⟩
              · rw [if_neg e] at h; exact ih n k hf.2 h
        obtain ⟨t, l, rfl, hft⟩ := hfl r n k hz2 hn
        rcases hrb with ⟨g1, g2⟩ | ⟨b, cap, c, te, g1, g2, g3, g4, g5, g6⟩
        · exact .inl ⟨g1, g2⟩
        · refine .inr ⟨b, cap, c, te, g1, g2, g3, g4, fun i j x cv hx hcv => ?_, g6⟩
          obtain ⟨u, hu, hrd⟩ := g5 i j x cv hx hcv
          refine ⟨u, hu, ?_⟩
          obtain ⟨v0, rfl⟩ := ok.flatd t x cv hft (List.mem_of_getElem? hcv)
          cases hrd with
          | sc _ hsc => exact .sc _ hsc
      · obtain ⟨q1, q2⟩ := hheap.own n x b h1 h2 h3
        exact ⟨fun hS => absurd (hr.stay b hS) (by omega), q2⟩
      · have hcell : ∀ (c c' : Cv G.T) (u : Value), flatC c = true → c.mapN (fun n => some (nm + n)) = some c' → Rc G ν2 S2 w'.heap c u → Rc G ν2 S w'.heap c u := by
          intro c c' u hf hm hrc
          cases c with
          | sc v0 =>
            have hrc' : Rd G S2 w'.heap (.sc v0) u := hrc
            cases hrc' with
            | sc _ hsc => exact Rd.sc _ hsc
          | own n => exact hrc
          | ro t l => simp [flatC] at hf
          | _ => simp [Cv.mapN] at hm
        have hpv : ∀ (x x' : Pv G.T) (u : Value), x.cells.all flatC = true → x.mapN (fun n => some (nm + n)) = some x' → Rp G ν2 S2 w'.heap x u → Rp G ν2 S w'.heap x u := by
          intro x x' u hf hm hrp
          cases hrp with
          | one c _ hc =>
            simp only [Pv.mapN] at hm
            split at hm
            · rename_i c' hc'
              exact .one _ _ (hcell c c' u (by simpa [Pv.cells] using hf) hc' hc)
            · simp at hm
          | agg cs us hc =>
            simp only [Pv.mapN] at hm
            split at hm
            · rename_i cs' hcs
              obtain ⟨m1, m2⟩ := mapO_spec _ _ hcs
              refine .agg _ _ ⟨hc.1, fun i a b ha hb => ?_⟩
              obtain ⟨y, _, hy⟩ := m2 i a ha
              exact hcell a y b (List.all_eq_true.1 hf a (List.mem_of_getElem? ha)) hy (hc.2 i a b ha hb)
            · simp at hm
        cases hval with
        | p x _ hx =>
          simp only [Sv.mapN] at hs'
          split at hs'
          · rename_i x' hx'; exact .p _ _ (hpv x x' v hz1 hx' hx)
          · simp at hs'
        | tup xs us hx =>
          simp only [Sv.mapN] at hs'
          split at hs'
          · rename_i xs' hxs
            obtain ⟨m1, m2⟩ := mapO_spec _ _ hxs
            refine .tup _ _ ⟨hx.1, fun i a b ha hb => ?_⟩
            obtain ⟨y, _, hy⟩ := m2 i a ha
            refine hpv a y b ?_ hy (hx.2 i a b ha hb)
            rw [List.all_eq_true] at hz1 ⊢
            intro c hc
            exact hz1 c (List.mem_flatMap.2 ⟨a, List.mem_of_getElem? ha, hc⟩)
          · simp at hs'
  refine ⟨v, ν', S3, he, hνold, fun n hn => ?_, h30, h31, ?_, fun s0 hs0 => ?_, hbel.size, fun b hb hnot => hbel.block b hb, hbel.os, hbel.tape, hbel.output⟩
  · simp only [ν'] at hn
    split at hn
    · rename_i h9; exact .inr ((hnew n).2 h9)
    · exact .inl hn
  · -- memory as a whole
    have hD : ∀ n, appD h (shiftB nm r) n = if nm ≤ n then (match get r (n - nm) with | some k => some k | none => h n) else h n := fun n => appD_shift nm r h n hrows
    have hcase : ∀ n, appD h (shiftB nm r) n ≠ none → (nm ≤ n ∧ get r (n - nm) ≠ none ∧ appD h (shiftB nm r) n = get r (n - nm) ∧ ν' n = ν2 (n - nm)) ∨ (h n ≠ none ∧ appD h (shiftB nm r) n = h n ∧ ν' n = ν n) := by
      intro n hn
      rw [hD n] at hn ⊢
      by_cases hle : nm ≤ n
      · rw [if_pos hle] at hn ⊢
        cases hg : get r (n - nm) with
        | some k => exact .inl ⟨hle, by simp, rfl, by simp only [ν']; rw [if_pos ⟨hle, by rw [hg]; simp⟩]⟩
        | none => rw [hg] at hn; exact .inr ⟨hn, rfl, by simp only [ν']; rw [if_neg (by rintro ⟨_, h9⟩; exact h9 hg)]⟩
      · rw [if_neg hle] at hn ⊢
        exact .inr ⟨hn, rfl, by simp only [ν']; rw [if_neg (by rintro ⟨h9, _⟩; exact hle h9)]⟩
    have hold : ∀ b, b < w.heap.size → w'.heap[b]? = w.heap[b]? := fun b hb => hbel.block b hb
    have le1 : Le ν ν' S S3 w.heap w'.heap := ⟨hνold, h30, fun b hb => hold b (hr.stay b hb)⟩
    refine ⟨fun n k hk => ?_, fun n m x y b h1 h2 h3 h4 h5 h6 => ?_, fun n x b h1 h2 h3 => ?_, h32.stay⟩
    · rcases hcase n (by rw [hk]; simp) with ⟨q1, q2, q3, q4⟩ | ⟨q1, q2, q3⟩
      · rw [hk] at q3
        have hrb := h32.blk (n - nm) k q3.symm
        have hkr : ∃ t l, k = .row t l := by
          have hall : ∀ (r : List (Nat × Blk G.T)) (j : Nat) (k : Blk G.T), onlyRows r = true → get r j = some k → ∃ t l, k = .row t l := by
            intro r
            induction r with
            | nil => intro j k _ h; simp [get] at h
            | cons p t ih =>
              obtain ⟨m, k0⟩ := p
              intro j k ho h
              cases k0 with
              | cells cs => simp [onlyRows] at ho
              | row u l =>
                simp only [onlyRows] at ho
                split at ho
                · simp only [get, beq_ite] at h
                  by_cases e : m = j
                  · rw [if_pos e] at h; simp at h; subst h; exact ⟨u, l, rfl⟩
                  · rw [if_neg e] at h; exact ih j k ho h
                · simp at ho
          exact hall r (n - nm) k hrows q3.symm
        obtain ⟨t, l, rfl⟩ := hkr
        exact rb_row q4 hrb
      · rw [hk] at q2
        exact (hr.blk n k q2.symm).mono le1 fun y b hy hb => hold b (hr.lt q1 hy hb)
    · rcases hcase n h1 with ⟨q1, q2, q3, q4⟩ | ⟨q1, q2, q3⟩ <;> rcases hcase m h2 with ⟨p1, p2, p3, p4⟩ | ⟨p1, p2, p3⟩
      · rw [q4] at h3; rw [p4] at h4
        have := h32.apart (n - nm) (m - nm) x y b q2 p2 h3 h4 h5 h6
        omega
      · rw [q4] at h3; rw [p3] at h4
        have h9 := (h32.own (n - nm) x b q2 h3 h5).2
        exact absurd (hr.lt p1 h4 h6) (by omega)
      · rw [q3] at h3; rw [p4] at h4
        have h9 := (h32.own (m - nm) y b p2 h4 h6).2
        exact absurd (hr.lt q1 h3 h5) (by omega)
      · rw [q3] at h3; rw [p3] at h4
        exact hr.apart n m x y b q1 p1 h3 h4 h5 h6
    · rcases hcase n h1 with ⟨q1, q2, q3, q4⟩ | ⟨q1, q2, q3⟩
      · rw [q4] at h2
        obtain ⟨g1, g2⟩ := h32.own (n - nm) x b q2 h2 h3
        exact ⟨g1, hB b g2⟩
      · rw [q3] at h2
        obtain ⟨g1, g2⟩ := hr.own n x b q1 h2 h3
        refine ⟨fun hS => ?_, g2⟩
        rcases h31 b hS with h9 | h9
        · exact g1 h9
        · exact absurd (hr.lt q1 h2 h3) (by omega)
  · simp at hs0; subst hs0
    refine rs_mapN (ν := ν2) (ν' := ν') (f := fun n => some (nm + n)) (fun n m x hm hx => ?_) hs' h33
    simp at hm; subst hm
    rw [hνnew n (hdom n (by rw [hx]; simp))]
    exact hx
end
end Go.Ab
