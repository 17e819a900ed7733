/- A law's call, from what the statement says of its arguments. -/
import Derived.Test.YtfooilbkiclplaaAb27
namespace Go.Ab
variable {G : Sig}

def noOwnC : CSh → Bool
  | .own _ _ => false
  | _ => true
def noOwnP : PSh → Bool
  | .one c => noOwnC c
  | .agg cs => cs.all noOwnC
theorem castL_refl (t : Nat) (l : List (G.T t)) : castL G t t l = some l := by unfold castL; rw [dif_pos rfl]
theorem castT_refl (t : Nat) (x : G.T t) : castT G t t x = some x := by unfold castT; rw [dif_pos rfl]
theorem eqNN_refl : ∀ p : List (Nat × Nat), eqNN p p = true
  | [] => rfl
  | a :: t => by simp [eqNN, eqNN_refl t]
theorem takeC_give {h : Nat → Option (Blk G.T)} : ∀ (s : CSh) (x : s.T G), noOwnC s = true → s.take h (s.give x) = some ⟨x, [], []⟩
  | .int k, x, _ => by
    have : eqIK k k = true := by cases k <;> rfl
    show (bif eqIK k k then tk0 x else none) = _
    rw [this]; rfl
  | .bool, x, _ => rfl
  | .str, x, _ => rfl
  | .flt k, x, _ => by
    have : eqFK k k = true := by cases k <;> rfl
    show (bif eqFK k k then tk0 x else none) = _
    rw [this]; rfl
  | .own _ _, _, h => by simp [noOwnC] at h
  | .ro t, x, _ => by
    have key : ∀ o : Option (List (G.T t)), o = some x → (match o with | some l => tk0 l | none => none) = some (⟨x, [], []⟩ : Tk (List (G.T t))) := by intro o ho; subst ho; rfl
    exact key _ (castL_refl t x)
  | .rp t off, x, _ => by
    have key : ∀ (b : Bool) (o : Option (G.T t)), b = true → o = some x → (bif b then match o with | some l => tk0 l | none => none else none) = some (⟨x, [], []⟩ : Tk (G.T t)) := by intro b o hb ho; subst hb; subst ho; rfl
    exact key _ _ (Nat.beq_refl off) (castT_refl t x)
  | .ptr n off, x, _ => by
    show (bif Nat.beq n n && Nat.beq off off then tk0 () else none) = _
    rw [Nat.beq_refl, Nat.beq_refl]; rfl
  | .clo f p q, x, _ => by
    show (bif Nat.beq f f && eqNN p p && eqNN q q then tk0 () else none) = _
    rw [Nat.beq_refl, eqNN_refl, eqNN_refl]; rfl
theorem takeL_give {h : Nat → Option (Blk G.T)} : ∀ (s : List CSh) (x : TL G s), s.all noOwnC = true → takeL h s (giveL s x) = some ⟨x, [], []⟩
  | [], x, _ => rfl
  | c :: t, x, hn => by
    simp only [List.all_cons, Bool.and_eq_true] at hn
    simp only [giveL, takeL, takeC_give c x.1 hn.1, takeL_give t x.2 hn.2]
    rfl
theorem takeP_give {h : Nat → Option (Blk G.T)} (s : PSh) (x : s.T G) (hn : noOwnP s = true) : s.take h (s.give x) = some ⟨x, [], []⟩ := by
  cases s with
  | one c => exact takeC_give c x hn
  | agg cs => exact takeL_give cs x hn
theorem takeA_give : ∀ (s : List PSh) (x : ArgT G s), s.all noOwnP = true → takeA s (giveA s x) = some x
  | [], _, _ => rfl
  | p :: t, x, hn => by
    simp only [List.all_cons, Bool.and_eq_true] at hn
    simp only [giveA, takeA, takeP_give p x.1 hn.1, takeA_give t x.2 hn.2]
    rfl

/-- The shapes of a law's parameters. -/
def pshO (G : Sig) (t : Nat) : Option PSh := match shl G 20 t with
  | some s => bif (G.ty t).isAgg then some (.agg s) else match s with | [c] => some (.one c) | _ => none
  | none => none
def pshs (G : Sig) : List Nat → Option (List PSh)
  | [] => some []
  | t :: r => match pshO G t, pshs G r with
    | some a, some b => some (a :: b)
    | _, _ => none
/-- What is known of a law's arguments. -/
def WfA (G : Sig) (s : List PSh) (x : ArgT G s) : Prop := ∀ p ∈ giveA s x, ∀ c ∈ p.cells, WfC G c
section
variable {H : Type} {enc : TypeId × Value → H} {P : Program} (ok : SigOK P G) (dk : DecOK G) {w : World} {sp : Nat → Bool} {hd : Bool}
theorem rd_rc {S : Nat → Prop} {h : Array Obj} {c : Cv G.T} {v : Value} (hw : WfC G c) (r : Rd G S h c v) : Rc G (fun _ => none) S h c v := by
  cases hw <;> exact r
include ok dk in
theorem open_one {t : Nat} {v : Value} {d : DataW H} {ps : List MemPlace} {s : PSh} {r : Reach} {base : Nat} (hs : pshO G t = some s) (ht : DataW.Trod enc P w 0 sp hd t v d ps) (hv : Value.okWide P w r base t v) :
    ∃ x : s.T G, Rp G (fun _ => none) (fun b => b < w.heap.size) w.heap (s.give x) v ∧ ∀ c ∈ (s.give x).cells, WfC G c := by
  obtain ⟨fuel, ht⟩ := ht
  unfold pshO at hs
  split at hs
  · rename_i sh hsh
    obtain ⟨x, h1, h2⟩ := open_trod ok dk fuel 20 t _ _ sh hsh ht
    cases ha : (G.ty t).isAgg with
    | true =>
      rw [ha] at hs; simp at hs; subst hs
      have hag : ∃ cs, v = .agg cs := by
        unfold Value.okWide at hv
        cases hty : G.ty t with
        | st fs =>
          obtain ⟨fields, hund, _⟩ := ok.strc t fs hty
          rw [hund] at hv
          obtain ⟨cs, h, _⟩ := hv
          exact ⟨cs, h⟩
        | arr n e =>
          obtain ⟨hund, _⟩ := ok.arr t n e hty
          rw [hund] at hv
          obtain ⟨cs, h, _⟩ := hv
          exact ⟨cs, h⟩
        | _ => rw [hty] at ha; simp [Ty.isAgg] at ha
      obtain ⟨cs, rfl⟩ := hag
      refine ⟨x, ?_, h2⟩
      have e1 : (Value.agg cs) = .agg cs.toList.toArray := by simp
      rw [e1]
      exact .agg _ _ ⟨h1.1, fun i c u hc hu => rd_rc (h2 c (List.mem_of_getElem? hc)) (h1.2 i c u hc hu)⟩
    | false =>
      rw [ha] at hs
      simp only [cond_false] at hs
      split at hs
      · rename_i c
        simp at hs; subst hs
        have hl : v.cells.toList.length = 1 := by rw [← h1.1]; rfl
        have hv1 : v.cells = #[v] := by
          cases v with
          | agg cs =>
            exfalso
            unfold Value.okWide at hv
            cases hty : G.ty t with
            | bool => rw [ok.bool t hty] at hv; simp [Cell.okWide, Cell.ok, ok.bool t hty] at hv
            | int k => rw [ok.int t k hty] at hv; simp [Cell.okWide, Cell.ok, ok.int t k hty] at hv
            | str => rw [ok.str t hty] at hv; simp [Cell.okWide, Cell.ok, ok.str t hty] at hv
            | sl e => rw [(ok.sl t e hty).1] at hv; simp [Cell.okWide, Cell.ok, (ok.sl t e hty).1] at hv
            | st _ => rw [hty] at ha; simp [Ty.isAgg] at ha
            | arr _ _ => rw [hty] at ha; simp [Ty.isAgg] at ha
            | _ => simp [shl, hty] at hsh
          | _ => rfl
        have hr : Rd G (fun b => b < w.heap.size) w.heap (c.give x.1) v := h1.2 0 _ v rfl (by rw [hv1]; rfl)
        have hw := h2 (c.give x.1) (by simp [giveL])
        refine ⟨x.1, .one _ _ (rd_rc hw hr), fun c' hc' => ?_⟩
        have hc' : c' ∈ [c.give x.1] := hc'
        simp at hc'; subst hc'; exact hw
      · simp at hs
  · simp at hs
include ok dk in
theorem open_all {r : Reach} {base : Nat} : ∀ (ts : List Nat) (vs : List Value) (ds : List (DataW H)) (ps : List MemPlace) (s : List PSh), pshs G ts = some s → DataW.TrodAll enc P w 0 sp hd ts vs ds ps →
    (∀ (j : Nat) t v, ts[j]? = some t → vs[j]? = some v → Value.okWide P w r base t v) → ∃ x : ArgT G s, F2 (Rp G (fun _ => none) (fun b => b < w.heap.size) w.heap) (giveA s x) vs ∧ WfA G s x
  | [], [], [], _, s, hs, _, _ => by
    simp [pshs] at hs; subst hs
    exact ⟨(), .nil, fun p hp => by simp [giveA] at hp⟩
  | t :: ts, v :: vs, d :: ds, ps, s, hs, ⟨p, q, h1, h2, _⟩, hv => by
    simp only [pshs] at hs
    split at hs
    · rename_i a b ha hb
      simp at hs; subst hs
      obtain ⟨x, g1, g2⟩ := open_one ok dk ha h1 (hv 0 t v rfl rfl)
      obtain ⟨y, g3, g4⟩ := open_all ts vs ds q b hb h2 fun j t v ht hvv => hv (j + 1) t v (by simpa using ht) (by simpa using hvv)
      refine ⟨(x, y), g3.cons g1, fun p hp => ?_⟩
      simp only [giveA, List.mem_cons] at hp
      rcases hp with rfl | hp
      · exact g2
      · exact g4 p hp
    · simp at hs
  | [], [], _ :: _, _, _, _, h, _ => h.elim
  | [], _ :: _, _, _, _, _, h, _ => by cases h
  | _ :: _, [], _, _, _, _, h, _ => by cases h
  | _ :: _, _ :: _, [], _, _, _, h, _ => by cases h

/-- The call of a law. -/
theorem law_calls {l : List (Nat × FnE G)} (tb : TblOK P G (tblOf l)) {g : Nat} {e : FnE G} (hfind : findF l g = some e) (hno : e.sh.all noOwnP = true) {x : ArgT G e.sh} {y : SumE G e.E} (hF : e.F x = some y) {b : Bool}
    (hy : caseE e.E y (fun p => finR e.rs p) = some (.p (.one (.sc (.bool b))), [])) {W : World} {vals : List Value} (hargs : F2 (Rp G (fun _ => none) (fun b => b < W.heap.size) W.heap) (giveA e.sh x) vals) :
    Calls P g vals.toArray W fun e' W' => e' = .returned (.bool b) ∧ RowKit.Below W.heap.size W W' := by
  have h : tblOf l g (giveA e.sh x) _ some = some (.p (.one (.sc (.bool b))), []) := by
    show (match findF l g with | some e' => callE e' (giveA e.sh x) _ some | none => none) = _
    rw [hfind]
    show (match takeA e.sh (giveA e.sh x) with | some x => (e.F x).bind fun y => caseE e.E y fun p => (finR e.rs p).bind some | none => none) = _
    rw [takeA_give e.sh x hno]
    show ((e.F x).bind fun y => caseE e.E y fun p => (finR e.rs p).bind some) = _
    rw [hF]
    show caseE e.E y (fun p => (finR e.rs p).bind some) = _
    have : (fun p : Ex × St G => (finR e.rs p).bind some) = fun p => finR e.rs p := by funext p; cases finR e.rs p <;> rfl
    rw [this]; exact hy
  refine ((tb.fn g _ _ _ h).2 _ W vals (fun _ h => h) hargs).mono fun e' W' ⟨v, ν', S', he, _, _, _, _, hval, hb⟩ => ⟨?_, hb⟩
  rw [he]
  cases hval with
  | p _ _ hrp =>
    cases hrp with
    | one _ _ hc =>
      have hc : Rd G S' W'.heap (.sc (.bool b)) v := hc
      cases hc; rfl
end
def DecE (G : Sig) (y : Ty) : Prop := ∀ e, y = .sl e → ∃ s, shl G 20 e = some s ∧ ∀ x : TL G s, ∃ y, G.dec e (giveL s x) = some y
theorem decE_no {G : Sig} {y : Ty} (h : (match y with | .sl _ => true | _ => false) = false) : DecE G y := fun e he => by subst he; simp at h
theorem decE_sl {G : Sig} {e : Nat} {s : List CSh} (h : shl G 20 e = some s) (hd : ∀ x : TL G s, ∃ y, G.dec e (giveL s x) = some y) : DecE G (.sl e) := fun e' he => by
  cases he; exact ⟨s, h, hd⟩
theorem decOK_of {tys : List (Nat × TyD)} {l : List (Ent1 (TOf tys))} (h : ∀ p ∈ l, DecE (mkSig tys l) p.e.ty) : DecOK (mkSig tys l) :=
  fun t => findE_all (T := TOf tys) (Q := fun _ e => DecE (mkSig tys l) e.ty) (fun _ => decE_no rfl) h t
end Go.Ab
