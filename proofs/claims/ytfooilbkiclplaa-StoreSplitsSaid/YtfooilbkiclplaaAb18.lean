/- What an operation reads: its outcome depends on nothing else. -/
import Derived.Test.YtfooilbkiclplaaAb17
namespace Go.Ab
variable {G : Sig}

/-! ### Operands -/
section
variable {ev ev' : Operand → Option (Sv G.T)}
theorem evP_congr {x : Operand} (h : ev' x = ev x) : evP ev' x = evP ev x := by unfold evP; rw [h]
theorem evC_congr {x : Operand} (h : ev' x = ev x) : evC ev' x = evC ev x := by unfold evC; rw [h]
theorem evI_congr {x : Operand} (h : ev' x = ev x) : evI ev' x = evI ev x := by unfold evI; rw [h]
theorem evB_congr {x : Operand} (h : ev' x = ev x) : evB ev' x = evB ev x := by unfold evB; rw [h]
theorem aMove_congr {x : Operand} (h : ev' x = ev x) : aMove ev' x = aMove ev x := by unfold aMove; rw [h]
theorem evPs_congr : ∀ (xs : List Operand), (∀ x ∈ xs, ev' x = ev x) → evPs ev' xs = evPs ev xs
  | [], _ => rfl
  | x :: t, h => by unfold evPs; rw [evP_congr (h x (by simp)), evPs_congr t fun y hy => h y (by simp [hy])]
theorem evParts_congr : ∀ (xs : List (Nat × Operand)), (∀ x ∈ xs.map (·.2), ev' x = ev x) → evParts ev' xs = evParts ev xs
  | [], _ => rfl
  | (i, x) :: t, h => by unfold evParts; rw [evP_congr (h x (by simp)), evParts_congr t fun y hy => h y (by simp only [List.map_cons, List.mem_cons]; exact .inr hy)]
theorem evBound_congr {d m : Nat} {x : Option Operand} (h : ∀ y, x = some y → ev' y = ev y) : evBound ev' d m x = evBound ev d m x := by
  cases x with
  | none => rfl
  | some y => simp only [evBound]; rw [evI_congr (h y rfl)]
theorem builtin_congr {h : Nat → Option (Blk G.T)} {nm : Nat} (b : Builtin) (tys : List Nat) (xs : List Operand) (hx : ∀ x ∈ xs, ev' x = ev x) : actBuiltin ev' h nm b tys xs = actBuiltin ev h nm b tys xs := by
  unfold actBuiltin
  split
  · unfold bLen
    split
    · rw [evC_congr (hx _ (by simp))]
    · rfl
    · rw [evC_congr (hx _ (by simp))]
    · rfl
  · unfold bMin; rw [evI_congr (hx _ (by simp)), evI_congr (hx _ (by simp))]
  · unfold bMax; rw [evI_congr (hx _ (by simp)), evI_congr (hx _ (by simp))]
  · unfold bAppend
    split
    · rw [evC_congr (hx _ (by simp)), evC_congr (hx _ (by simp))]
    · rfl
  · rfl
theorem act_ops {cf : CallF G} {h : Nat → Option (Blk G.T)} {nm : Nat} (op : Op) (hx : ∀ x ∈ op.operands.toList, ev' x = ev x) : act cf ev' h nm op = act cf ev h nm op := by
  cases op
  case makeFunc fn a b =>
    cases fn
    case func f =>
      show aFunc ev' f a.toList b.toList = aFunc ev f a.toList b.toList
      unfold aFunc
      rw [evPs_congr _ fun x h => hx x (by simp [Op.operands]; left; simpa using h), evPs_congr _ fun x h => hx x (by simp [Op.operands]; right; simpa using h)]
    all_goals rfl
  case call c =>
    obtain ⟨callee, xs, tys⟩ := c
    cases callee
    case value f =>
      show aCall cf ev' h nm f xs.toList = aCall cf ev h nm f xs.toList
      unfold aCall
      rw [evC_congr (hx f (by simp [Op.operands, Call.operands])), evPs_congr _ fun x h => hx x (by simp [Op.operands, Call.operands]; right; simpa using h)]
    case builtin b => exact builtin_congr b _ _ fun x h => hx x (by simp [Op.operands, Call.operands]; simpa using h)
    case invoke => rfl
  case move x => exact aMove_congr (hx x (by simp [Op.operands]))
  case assign x => exact aMove_congr (hx x (by simp [Op.operands]))
  case pick c a b =>
    show aPick ev' c a b = aPick ev c a b
    unfold aPick
    rw [evB_congr (hx c (by simp [Op.operands]))]
    congr 1; funext c1; congr 1; funext c2
    cases c2
    · exact aMove_congr (hx b (by simp [Op.operands]))
    · exact aMove_congr (hx a (by simp [Op.operands]))
  case alloc t => rfl
  case box t x => show aBox ev' nm x = aBox ev nm x; unfold aBox; rw [evP_congr (hx x (by simp [Op.operands]))]
  case build t ps =>
    show aBuild ev' t ps.toList = aBuild ev t ps.toList
    unfold aBuild
    rw [evParts_congr _ fun x h => hx x (by simpa [Op.operands] using h)]
  case buildSlice t n ps =>
    show aBuildSlice ev' nm t n ps.toList = aBuildSlice ev nm t n ps.toList
    unfold aBuildSlice
    rw [evParts_congr _ fun x h => hx x (by simpa [Op.operands] using h)]
  case load t x => show aLoad ev' h t x = aLoad ev h t x; unfold aLoad; rw [evC_congr (hx x (by simp [Op.operands]))]
  case store t x y => show aStore ev' h t x y = aStore ev h t x y; unfold aStore; rw [evC_congr (hx x (by simp [Op.operands])), evP_congr (hx y (by simp [Op.operands]))]
  case nilCheck x => show aNil ev' x = aNil ev x; unfold aNil; rw [evC_congr (hx x (by simp [Op.operands]))]
  case binOp op t x y u => show aBin ev' op t x y = aBin ev op t x y; unfold aBin; rw [evP_congr (hx x (by simp [Op.operands])), evP_congr (hx y (by simp [Op.operands]))]
  case unOp op t x => show aUn ev' op x = aUn ev op x; unfold aUn; rw [evC_congr (hx x (by simp [Op.operands]))]
  case convert s t x => show aConv ev' s t x = aConv ev s t x; unfold aConv; rw [evC_congr (hx x (by simp [Op.operands]))]
  case makeSlice t x y => show aMakeSlice ev' nm t x y = aMakeSlice ev nm t x y; unfold aMakeSlice; rw [evI_congr (hx x (by simp [Op.operands])), evI_congr (hx y (by simp [Op.operands]))]
  case slice t x lo hi mx =>
    show aSlice ev' t x lo hi mx = aSlice ev t x lo hi mx
    unfold aSlice
    have hlo : ∀ d m, evBound ev' d m lo = evBound ev d m lo := fun d m => evBound_congr fun y hy => hx y (by subst hy; simp [Op.operands])
    have hhi : ∀ d m, evBound ev' d m hi = evBound ev d m hi := fun d m => evBound_congr fun y hy => hx y (by subst hy; simp [Op.operands])
    have e1 : ∀ c, sliceS ev' c lo hi = sliceS ev c lo hi := by intro c; unfold sliceS; simp only [hlo, hhi]
    have e2 : ∀ c e, sliceR ev' c e lo hi = sliceR ev c e lo hi := by intro c e; unfold sliceR; simp only [hlo, hhi]
    rw [evC_congr (hx x (by simp [Op.operands]))]
    simp only [e1, e2]
  case fieldAddr t x f => show aFieldAddr ev' t x f = aFieldAddr ev t x f; unfold aFieldAddr; rw [evC_congr (hx x (by simp [Op.operands]))]
  case field t x f => show aField ev' t x f = aField ev t x f; unfold aField; rw [evP_congr (hx x (by simp [Op.operands]))]
  case indexAddr t x i => show aIndexAddr ev' h t x i = aIndexAddr ev h t x i; unfold aIndexAddr; rw [evC_congr (hx x (by simp [Op.operands])), evI_congr (hx i (by simp [Op.operands]))]
  case index t x i => show aIndex ev' t x i = aIndex ev t x i; unfold aIndex; rw [evC_congr (hx x (by simp [Op.operands])), evI_congr (hx i (by simp [Op.operands]))]
  case extract x i => show aExtract ev' x i = aExtract ev x i; unfold aExtract; rw [hx x (by simp [Op.operands])]
  all_goals rfl
end

/-! ### Memory -/
section
variable {ev : Operand → Option (Sv G.T)} {h h' : Nat → Option (Blk G.T)} {nm : Nat}
theorem look_loc {n : Nat} {c : Cv G.T} (hh : ∀ m ∈ c.rds, h' m = h m) : look h' n c = look h n c := by
  cases c with
  | ptr b o => simp only [look]; rw [hh b (by simp [Cv.rds])]
  | pd b o s l i => simp only [look]; rw [hh b (by simp [Cv.rds])]
  | pr b t i o => simp only [look]; rw [hh b (by simp [Cv.rds])]
  | _ => rfl
theorem poke_loc {new : List (Cv G.T)} {c : Cv G.T} (hh : ∀ m ∈ c.rds, h' m = h m) : poke h' new c = poke h new c := by
  cases c with
  | ptr b o => simp only [poke]; rw [hh b (by simp [Cv.rds])]
  | pd b o s l i => simp only [poke]; rw [hh b (by simp [Cv.rds])]
  | pr b t i o => simp only [poke]; rw [hh b (by simp [Cv.rds])]
  | _ => rfl
theorem elems_loc {e : Nat} {c : Cv G.T} (hh : ∀ m ∈ c.rds, h' m = h m) : elems h' e c = elems h e c := by
  cases c with
  | own b => simp only [elems]; rw [hh b (by simp [Cv.rds])]
  | sc v => unfold elems; split <;> first | rfl | contradiction
  | _ => rfl
/-- What is asked of the calls: their outcome depends only on what they say they read. -/
def CfLoc (cf : CallF G) : Prop := ∀ g args h h' nm out, cf g args h nm (Out G) some = some out → (∀ n ∈ out.rd, h' n = h n) → cf g args h' nm (Out G) some = some out
theorem act_loc {cf : CallF G} (hl : CfLoc cf) {op : Op} {out : Out G} (ha : act cf ev h nm op (Out G) some = some out) (hh : ∀ n ∈ out.rd, h' n = h n) : act cf ev h' nm op (Out G) some = some out := by
  cases op
  case load t x =>
    have ha : aLoad ev h t x (Out G) some = some out := ha
    show aLoad ev h' t x (Out G) some = some out
    unfold aLoad at ha ⊢
    obtain ⟨c, hc, h1⟩ := bindC ha
    obtain ⟨cs, hcs, h2⟩ := M.bindopt h1
    obtain ⟨y, hy, h3⟩ := M.bindopt h2
    simp [M.ret] at h3; subst h3
    have e := look_loc (n := G.sz t) hh
    simp only [M.bind, evC, hc, M.opt, e, hcs, hy, M.ret]
  case store t x y =>
    have ha : aStore ev h t x y (Out G) some = some out := ha
    show aStore ev h' t x y (Out G) some = some out
    unfold aStore at ha ⊢
    obtain ⟨c, hc, h1⟩ := bindC ha
    obtain ⟨u, hu, h2⟩ := bindP h1
    obtain ⟨hn, h3⟩ := M.bindneed h2
    obtain ⟨r, hr, h4⟩ := M.bindopt h3
    simp [M.ret] at h4; subst h4
    have e := poke_loc (new := u.cells) hh
    simp only [M.bind, evC, hc, evP, hu, M.need, hn, cond_true, M.opt, e, hr, M.ret]
  case indexAddr t x i =>
    have ha : aIndexAddr ev h t x i (Out G) some = some out := ha
    show aIndexAddr ev h' t x i (Out G) some = some out
    unfold aIndexAddr at ha ⊢
    cases ht : G.ty t <;> simp only [ht] at ha ⊢ <;> try exact ha
    rename_i e
    obtain ⟨c, hc, h1⟩ := bindC ha
    obtain ⟨d, n, hi, h2⟩ := bindI h1
    have g : ixS h' e c n (Out G) some = some out := by
      unfold ixS at h2 ⊢
      cases c with
      | own b =>
        simp only at h2 ⊢
        cases hb : h b with
        | none => rw [hb] at h2; simp [M.fail] at h2
        | some k =>
          rw [hb] at h2
          cases k with
          | cells cs => simp [M.fail] at h2
          | row u l =>
            have h2' := h2
            simp only at h2
            obtain ⟨hn, h3⟩ := M.bindneed h2
            obtain ⟨hn2, h4⟩ := M.bindneed h3
            simp [M.ret] at h4; subst h4
            rw [hh b (by simp), hb]
            exact h2'
      | _ => exact h2
    simp only [M.bind, evC, hc, evI, hi]
    exact g
  case call cl =>
    obtain ⟨callee, xs, tys⟩ := cl
    cases callee
    case value f =>
      have ha : aCall cf ev h nm f xs.toList (Out G) some = some out := ha
      show aCall cf ev h' nm f xs.toList (Out G) some = some out
      unfold aCall at ha ⊢
      obtain ⟨c, hc, h1⟩ := bindC ha
      obtain ⟨as, h2, has⟩ := (law_evPs (ev := ev) xs.toList).spec (M.bind_spec h1)
      have g : callC cf h' nm c as (Out G) some = some out := by
        unfold callC at has ⊢
        cases c with
        | clo g fst caps => exact hl _ _ _ _ _ _ has hh
        | _ => exact has
      simp only [M.bind, evC, hc]
      rw [law_evPs xs.toList, h2]
      exact g
    case builtin b =>
      have ha : actBuiltin ev h nm b tys.toList xs.toList (Out G) some = some out := ha
      show actBuiltin ev h' nm b tys.toList xs.toList (Out G) some = some out
      rcases builtin_cases ha with ⟨rfl, t, ts, x, h1, h2⟩ | ⟨rfl, x, y, h1⟩ | ⟨rfl, x, y, h1⟩ | ⟨rfl, t, x, y, h1, h2⟩
      · rw [h1, h2] at ha ⊢
        have ha : bLen ev h t x (Out G) some = some out := ha
        show bLen ev h' t x (Out G) some = some out
        unfold bLen at ha ⊢
        cases ht : G.ty t <;> simp only [ht] at ha ⊢ <;> try exact ha
        rename_i e
        obtain ⟨c, hc, g1⟩ := bindC ha
        obtain ⟨l, hl', g2⟩ := M.bindopt g1
        simp [M.ret] at g2; subst g2
        have e1 := elems_loc (e := e) hh
        simp only [M.bind, evC, hc, M.opt, e1, hl', M.ret]
      · rw [h1] at ha ⊢; exact ha
      · rw [h1] at ha ⊢; exact ha
      · rw [h1, h2] at ha ⊢
        have ha : bAppend ev h nm t t x y (Out G) some = some out := ha
        show bAppend ev h' nm t t x y (Out G) some = some out
        unfold bAppend at ha ⊢
        cases ht : G.ty t <;> simp only [ht] at ha ⊢ <;> try exact ha
        rename_i e
        obtain ⟨hn, g1⟩ := M.bindneed ha
        obtain ⟨c, hc, g2⟩ := bindC g1
        obtain ⟨c', hc', g3⟩ := bindC g2
        obtain ⟨l, hl', g4⟩ := M.bindopt g3
        obtain ⟨l', hl'', g5⟩ := M.bindopt g4
        obtain ⟨hn2, g6⟩ := M.bindneed g5
        have hrd : (∀ m ∈ c.rds, m ∈ out.rd) ∧ ∀ m ∈ c'.rds, m ∈ out.rd := by
          unfold appC at g6
          cases c with
          | sc v => simp [M.ret] at g6; subst g6; exact ⟨by simp [Cv.rds], fun m h => h⟩
          | own n =>
            simp only at g6
            obtain ⟨_, g7⟩ := M.bindneed g6
            simp [M.ret] at g7; subst g7
            exact ⟨by simp [Cv.rds], fun m h => by simp [h]⟩
          | _ => simp [M.fail] at g6
        have e1 := elems_loc (e := e) (c := c) fun m hm => hh m (hrd.1 m hm)
        have e2 := elems_loc (e := e) (c := c') fun m hm => hh m (hrd.2 m hm)
        simp only [M.bind, M.need, hn, cond_true, evC, hc, hc', M.opt, e1, e2, hl', hl'', hn2]
        exact g6
    case invoke => exact ha
  case makeFunc fn a b => cases fn <;> exact ha
  all_goals exact ha
end
theorem cfV_loc {tbl : Nat → List (Pv G.T) → M (Sv G.T × List (Nat × Blk G.T))} (hT : ∀ g args, Law (tbl g args)) : CfLoc (cfV (G := G) tbl) := by
  intro g args h h' nm out ha hh
  unfold cfV at ha ⊢
  obtain ⟨⟨args', bs⟩, hb, h1⟩ := M.bindopt ha
  obtain ⟨⟨s, r⟩, hsr, h2⟩ := (hT g args').spec (M.bind_spec h1)
  obtain ⟨hn, h3⟩ := M.bindneed h2
  obtain ⟨s', hs', h4⟩ := M.bindopt h3
  simp [M.ret] at h4; subst h4
  have cell : ∀ (c c' : Cv G.T) (a : List Nat), bor h c = some (c', a) → (∀ n ∈ a, h' n = h n) → bor h' c = some (c', a) := by
    intro c c' a hc ha
    cases c with
    | own n =>
      have hc0 := hc
      simp only [bor] at hc ⊢
      split at hc
      · rename_i t l hm
        simp at hc; obtain ⟨rfl, rfl⟩ := hc
        rw [ha n (by simp), hm]
      · simp at hc
    | clo f p q => cases p <;> cases q <;> exact hc
    | _ => exact hc
  have cells : ∀ (cs cs' : List (Cv G.T)) (a : List Nat), borL h cs = some (cs', a) → (∀ n ∈ a, h' n = h n) → borL h' cs = some (cs', a) := by
    intro cs
    induction cs with
    | nil => intro cs' a hc _; exact hc
    | cons c t ih =>
      intro cs' a hc ha
      simp only [borL] at hc ⊢
      split at hc
      · rename_i c' a1 t' a2 e1 e2
        simp at hc; obtain ⟨rfl, rfl⟩ := hc
        rw [cell c c' a1 e1 fun n hn => ha n (by simp [hn]), ih t' a2 e2 fun n hn => ha n (by simp [hn])]
      · simp at hc
  have pv : ∀ (x x' : Pv G.T) (a : List Nat), borP h x = some (x', a) → (∀ n ∈ a, h' n = h n) → borP h' x = some (x', a) := by
    intro x x' a hx ha
    cases x with
    | one c =>
      simp only [borP] at hx ⊢
      split at hx
      · rename_i c' a1 e1; simp at hx; obtain ⟨rfl, rfl⟩ := hx; rw [cell c c' a1 e1 ha]
      · simp at hx
    | agg cs =>
      simp only [borP] at hx ⊢
      split at hx
      · rename_i c' a1 e1; simp at hx; obtain ⟨rfl, rfl⟩ := hx; rw [cells cs c' a1 e1 ha]
      · simp at hx
  have all : ∀ (xs xs' : List (Pv G.T)) (a : List Nat), borA h xs = some (xs', a) → (∀ n ∈ a, h' n = h n) → borA h' xs = some (xs', a) := by
    intro xs
    induction xs with
    | nil => intro cs' a hc _; exact hc
    | cons c t ih =>
      intro cs' a hc ha
      simp only [borA] at hc ⊢
      split at hc
      · rename_i c' a1 t' a2 e1 e2
        simp at hc; obtain ⟨rfl, rfl⟩ := hc
        rw [pv c c' a1 e1 fun n hn => ha n (by simp [hn]), ih t' a2 e2 fun n hn => ha n (by simp [hn])]
      · simp at hc
  have := all args args' bs hb hh
  simp only [M.bind, M.opt, this]
  rw [hT g args' , hsr]
  simp only [Option.bind, M.need, hn, cond_true, hs', M.ret]
end Go.Ab
