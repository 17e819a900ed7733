/- A table of types that fits the program. -/
import Derived.Test.YtfooilbkiclplaaAb24
namespace Go.Ab

def TyOK (P : Program) (G : Sig) (t : Nat) : Ty → Prop
  | .no => True
  | .bool => P.underlying t = some .bool
  | .int k => P.underlying t = some (.int k)
  | .flt k => P.underlying t = some (.float k)
  | .str => P.underlying t = some .string
  | .sl e => P.underlying t = some (.slice e) ∧ isNo (G.ty e) = false ∧ (∃ i, P.info? e = some i ∧ Nat.ble i.bytes 4096 = true) ∧ ∀ x, (G.enc e x).length = G.sz e
  | .pt e => P.underlying t = some (.pointer e)
  | .fn => ∃ a b c, P.underlying t = some (.func a b c)
  | .st fs => ∃ fields, P.underlying t = some (.struct fields) ∧ fields.toList.map (fun f => (f.offset, f.type)) = fs ∧ fs.all (fun p => !isNo (G.ty p.2)) = true
  | .arr n e => P.underlying t = some (.array n e) ∧ isNo (G.ty e) = false
def isScRo {T : Nat → Type} : Cv T → Bool
  | .sc _ | .ro _ _ => true
  | _ => false
def isScC {T : Nat → Type} : Cv T → Bool
  | .sc _ => true
  | _ => false
structure EntOK (P : Program) (G : Sig) (t : Nat) (e : Ent G.T t) : Prop where
  ty : TyOK P G t e.ty
  info : e.ty ≠ .no → ∃ i z, P.info? t = some i ∧ i.size = e.sz ∧ i.zero = some z ∧ z.cells.toList = e.zero
  pos : e.ty ≠ .no → Nat.ble 1 e.sz = true
  nosz : e.ty = .no → e.sz = 0
  zsc : e.zero.all isSc = true
  zlen : e.zero.length = e.sz
  encl : ∀ x, (e.enc x).length ≤ e.sz
  encdec : ∀ cs x, e.dec cs = some x → e.enc x = cs
  encd : ∀ x, (e.enc x).all isScRo = true
  flatd : e.flat = true → ∀ x, (e.enc x).all isScC = true
theorem entOK_no {P : Program} {G : Sig} (t : Nat) : EntOK P G t (noEnt G.T t) :=
  ⟨trivial, fun h => absurd rfl h, fun h => absurd rfl h, fun _ => rfl, rfl, rfl, fun _ => Nat.le_refl _, fun cs x h => by simp [noEnt] at h, fun _ => rfl, fun _ _ => rfl⟩
theorem findE_all {T : Nat → Type} {Q : (t : Nat) → Ent T t → Prop} (h0 : ∀ t, Q t (noEnt T t)) : ∀ {l : List (Ent1 T)}, (∀ p ∈ l, Q p.t p.e) → ∀ t, Q t (findE l t)
  | [], _, t => h0 t
  | p :: r, h, t => by
    unfold findE
    split
    · rename_i e
      subst e
      exact h p (by simp)
    · exact findE_all h0 (fun q hq => h q (by simp [hq])) t
theorem isNo_false {y : Ty} (h : isNo y = false) : y ≠ .no := by intro e; subst e; simp [isNo] at h

theorem sigOK_of {P : Program} {tys : List (Nat × TyD)} {l : List (Ent1 (TOf tys))} (h : ∀ p ∈ l, EntOK P (mkSig tys l) p.t p.e) : SigOK P (mkSig tys l) := by
  have key : ∀ t, EntOK P (mkSig tys l) t (findE l t) := findE_all (T := TOf tys) (Q := fun t e => EntOK P (mkSig tys l) t e) (fun t => entOK_no t) h
  have tyOf : ∀ t, TyOK P (mkSig tys l) t ((mkSig tys l).ty t) := fun t => (key t).ty
  refine ⟨fun t e => ?_, fun t k e => ?_, fun t k e => ?_, fun t e => ?_, fun t e he => ?_, fun t e he => ?_, fun t e => ?_, fun t fs e => ?_, fun t n e he => ?_, fun t => (key t).info, fun t ht => ?_, fun t => (key t).nosz, fun t v hv => ?_, fun t => (key t).zlen, fun t => (key t).encl, fun t => (key t).encdec, fun t x c hc => ?_, fun t x c hf hc => ?_⟩
  · have := tyOf t; rw [e] at this; exact this
  · have := tyOf t; rw [e] at this; exact this
  · have := tyOf t; rw [e] at this; exact this
  · have := tyOf t; rw [e] at this; exact this
  · have := tyOf t; rw [he] at this
    obtain ⟨h1, h2, ⟨i, h3, h4⟩, h5⟩ := this
    exact ⟨h1, isNo_false h2, ⟨i, h3, Nat.le_of_ble_eq_true h4⟩, h5⟩
  · have := tyOf t; rw [he] at this; exact this
  · have := tyOf t; rw [e] at this; exact this
  · have := tyOf t; rw [e] at this
    obtain ⟨fields, h1, h2, h3⟩ := this
    refine ⟨fields, h1, h2, fun o u hou => isNo_false ?_⟩
    have := List.all_eq_true.1 h3 (o, u) hou
    simpa using this
  · have := tyOf t; rw [he] at this; exact ⟨this.1, isNo_false this.2⟩
  · exact Nat.le_of_ble_eq_true ((key t).pos ht)
  · exact List.all_eq_true.1 (key t).zsc v hv
  · have := List.all_eq_true.1 ((key t).encd x) c hc
    cases c with
    | sc v => exact .inl ⟨v, rfl⟩
    | ro t' l => exact .inr ⟨t', l, rfl⟩
    | _ => simp [isScRo] at this
  · have := List.all_eq_true.1 ((key t).flatd hf x) c hc
    cases c with
    | sc v => exact ⟨v, rfl⟩
    | _ => simp [isScC] at this
end Go.Ab
