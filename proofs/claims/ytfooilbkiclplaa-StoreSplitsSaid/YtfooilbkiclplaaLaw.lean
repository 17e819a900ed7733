/- StoreSplits, whatever the input. -/
import Derived.Test.YtfooilbkiclplaaFns
import Derived.Test.YtfooilbkiclplaaRows
import Derived.Test.YtfooilbkiclplaaChecked
import Derived.Below
import Derived.ChangeSame
import Derived.Carry
namespace Go.Proofs.Yt
open Go Go.Ab
theorem F14_true : F14 = some ((true, ()), ()) := by kernel_rfl
theorem F23_ok {h0 h1 : ByteArray} {sel : Int} (a0 : h0.size ≤ 9000) (a1 : h1.size ≤ 9000) (hs : sel = 0 ∨ sel = 1) : F23 9000 h0 h1 sel = some ((true, ()), ()) := by
  unfold F23
  have e0 : decide (((h0.size : Nat) : Int) ≤ 9000) = true := by simp; omega
  have e1 : decide (((h1.size : Nat) : Int) ≤ 9000) = true := by simp; omega
  rcases hs with rfl | rfl <;> simp [e0, e1]
theorem F37_ok {h0 h1 : ByteArray} {sel bud : Int} (a0 : h0.size ≤ 9000) (a1 : h1.size ≤ 9000) (hs : sel = 0 ∨ sel = 1) (hb : 0 ≤ bud) : F37 9000 h0 h1 sel 1 bud = some ((0, ()), ()) := by
  unfold F37
  rw [F23_ok a0 a1 hs]
  have e : decide (bud < 0) = false := by simp; omega
  simp [e]
theorem wrap_small {n : Int} (h : -9223372036854775808 ≤ n) (h' : n < 9223372036854775808) : IntKind.i64.wrap n = n := by
  rw [IntKind.wrap_i64]; omega
/-- What Write comes to, at the second half. -/
theorem F15_ok {h0 h1 d : ByteArray} {sel bud : Int} (a0 : h0.size ≤ 9000) (a1 : h1.size + d.size ≤ 9000) (hs : sel = 0 ∨ sel = 1) (hb : 0 ≤ bud) (hb' : bud ≤ 100000) :
    F15 9000 h0 h1 sel 1 d bud = if bud < d.size then some (((), 0, 8, ()), (h0, h1 ++ d.extract 0 bud.toNat, sel, ()), ()) else some (((), bud - d.size, 0, ()), (h0, h1 ++ d, sel, ()), ()) := by
  unfold F15
  rw [F37_ok a0 (by omega) hs hb]
  have e1 : inB 1 2 = true := by decide
  have e2 : decide (IntKind.wrap .i64 (9000 - ((h1.size : Nat) : Int)) < ((d.size : Nat) : Int)) = false := by
    rw [wrap_small (by omega) (by omega)]; simp; omega
  by_cases h : bud < d.size
  · have e3 : decide (bud < ((d.size : Nat) : Int)) = true := by simpa using h
    have e4 : (d.extract 0 bud.toNat).size ≤ d.size := by simp; omega
    have e5 : Nat.ble (h1.size + (d.extract 0 bud.toNat).size) 4611686018427387904 = true := by rw [Nat.ble_eq]; omega
    have e6 : decide (0 ≤ bud) = true := by simpa using hb
    have e7 : decide (bud ≤ ((d.size : Nat) : Int)) = true := by simp; omega
    rw [if_pos h]
    have e5' : Nat.ble (h1.size + min bud.toNat d.size) 4611686018427387904 = true := by rw [Nat.ble_eq]; omega
    have b10 : Nat.beq 1 0 = false := rfl
    simp [e1, e2, e3, e5', e6, e7, b10]
  · have e3 : decide (bud < ((d.size : Nat) : Int)) = false := by simpa using h
    have e5 : Nat.ble (h1.size + d.size) 4611686018427387904 = true := by rw [Nat.ble_eq]; omega
    rw [if_neg h]
    have b10 : Nat.beq 1 0 = false := rfl
    simp [e1, e2, e3, e5, b10, wrap_small (n := bud - d.size) (by omega) (by omega)]
theorem F13_eq (h0 h1 : ByteArray) (sel : Int) : F13 h0 h1 sel = some ((decide (h0.size ≤ 2000) && decide (h1.size ≤ 2000), ()), ()) := by
  unfold F13
  have c0 : decide (((h0.size : Nat) : Int) ≤ 2000) = decide (h0.size ≤ 2000) := by congr 1; simp; omega
  have c1 : decide (((h1.size : Nat) : Int) ≤ 2000) = decide (h1.size ≤ 2000) := by congr 1; simp; omega
  rw [c0, c1]
  cases decide (h0.size ≤ 2000) <;> rfl
theorem eqB_refl (a : ByteArray) : eqB a a = true := by simp [eqB]
theorem extract_all (d : ByteArray) (k : Nat) (_ : k ≤ d.size) : d.extract 0 k ++ d.extract k d.size = d := by
  apply ByteArray.ext
  simp
theorem ext_join (d : ByteArray) {k l : Nat} (_ : k ≤ d.size) (h' : l ≤ d.size - k) : d.extract 0 k ++ (d.extract k d.size).extract 0 l = d.extract 0 (k + l) := by
  apply ByteArray.ext
  have : min (k + l) d.size = k + l := by omega
  simp [Array.extract_extract, this]
theorem ext_ext (d : ByteArray) {k l : Nat} (h : l ≤ k) : (d.extract 0 k).extract 0 l = d.extract 0 l := by
  apply ByteArray.ext
  simp; congr 1; omega
theorem wrap_zero : IntKind.i64.wrap 0 = 0 := by kernel_rfl
theorem F3_true (h0 h1 d : ByteArray) (sel a b : Int) (ha : 0 ≤ a ∧ a < 65536) (hb : 0 ≤ b ∧ b < 65536) : F3 h0 h1 sel d a b = some ((true, ()), ()) := by
  unfold F3
  rw [F13_eq]
  by_cases s0 : h0.size ≤ 2000
  · by_cases s1 : h1.size ≤ 2000
    · by_cases s2 : d.size ≤ 500
      · have c : decide ((500 : Int) < ((d.size : Nat) : Int)) = false := by simp; omega
        have w1 : IntKind.wrap .i64 (((d.size : Nat) : Int) + 1) = d.size + 1 := wrap_small (by omega) (by omega)
        have w3 : IntKind.wrap .i64 (((d.size : Nat) : Int) + 3) = d.size + 3 := wrap_small (by omega) (by omega)
        simp only [decide_eq_true s0, decide_eq_true s1, Bool.and_true, Option.bind_some, Bool.not_true, cond_false, c, w1, w3, wrap_small (n := a) (by omega) (by omega), wrap_small (n := b) (by omega) (by omega)]
        have n1 : ((d.size : Nat) : Int) + 1 ≠ 0 := by omega
        have n3 : ((d.size : Nat) : Int) + 3 ≠ 0 := by omega
        have at0 := Int.tmod_nonneg (((d.size : Nat) : Int) + 1) ha.1
        have at1 := Int.tmod_lt_of_pos (b := ((d.size : Nat) : Int) + 1) a (by omega)
        have bu0 := Int.tmod_nonneg (((d.size : Nat) : Int) + 3) hb.1
        have bu1 := Int.tmod_lt_of_pos (b := ((d.size : Nat) : Int) + 3) b (by omega)
        generalize a.tmod (((d.size : Nat) : Int) + 1) = at' at at0 at1 ⊢
        generalize b.tmod (((d.size : Nat) : Int) + 3) = bu at bu0 bu1 ⊢
        have z1 : (((d.size : Nat) : Int) + 1 != 0) = true := by simp; omega
        have z3 : (((d.size : Nat) : Int) + 3 != 0) = true := by simp; omega
        have ap : (decide (0 ≤ at') && decide (at' ≤ ((d.size : Nat) : Int))) = true := by simp; omega
        have sz1 : (d.extract 0 at'.toNat).size = at'.toNat := by simp; omega
        have sz2 : (d.extract at'.toNat d.size).size = d.size - at'.toNat := by simp
        have hsz : (h1 ++ d.extract 0 at'.toNat).size = h1.size + at'.toNat := by rw [ByteArray.size_append, sz1]
        simp only [z1, z3, ap, cond_true]
        rw [F15_ok (d := d) (by omega) (by omega) (.inl rfl) bu0 (by omega), F15_ok (d := d.extract 0 at'.toNat) (by omega) (by rw [sz1]; omega) (.inl rfl) bu0 (by omega), sz1]
        have toN : ((at'.toNat : Nat) : Int) = at' := by omega
        rw [toN]
        by_cases c1 : bu < at'
        · have c2 : bu < ((d.size : Nat) : Int) := by omega
          rw [if_pos c1, if_pos c2]
          have e1 : (d.extract 0 at'.toNat).extract 0 bu.toNat = d.extract 0 bu.toNat := ext_ext d (by omega)
          have e2 : decide (((d.size : Nat) : Int) ≤ bu) = false := by simp; omega
          have e3 : decide (((d.size : Nat) : Int) < bu) = false := by simp; omega
          have e4 : (decide (0 ≤ bu) && decide (bu ≤ ((d.size : Nat) : Int))) = true := by simp; omega
          have e5 : Nat.ble (h1.size + min bu.toNat d.size) 4611686018427387904 = true := by rw [Nat.ble_eq]; omega
          simp [e1, e2, e3, e4, e5, eqB_refl, F14_true, wrap_zero]
        · rw [if_neg c1]
          simp only [Option.bind_some, beq_self_eq_true, cond_true]
          rw [F15_ok (d := d.extract at'.toNat d.size) (by omega) (by rw [hsz, sz2]; omega) (.inl rfl) (by omega) (by omega), sz2]
          have toM : ((d.size - at'.toNat : Nat) : Int) = d.size - at' := by omega
          rw [toM]
          by_cases c2 : bu < ((d.size : Nat) : Int)
          · rw [if_pos c2, if_pos (by omega)]
            have e1 : h1 ++ d.extract 0 at'.toNat ++ (d.extract at'.toNat d.size).extract 0 (bu - at').toNat = h1 ++ d.extract 0 bu.toNat := by
              rw [ByteArray.append_assoc, ext_join d (by omega) (by omega)]; congr 3; omega
            have e2 : decide (((d.size : Nat) : Int) ≤ bu) = false := by simp; omega
            have e3 : decide (((d.size : Nat) : Int) < bu) = false := by simp; omega
            have e4 : (decide (0 ≤ bu) && decide (bu ≤ ((d.size : Nat) : Int))) = true := by simp; omega
            have e5 : Nat.ble (h1.size + min bu.toNat d.size) 4611686018427387904 = true := by rw [Nat.ble_eq]; omega
            simp [e1, e2, e3, e4, e5, eqB_refl, F14_true, wrap_zero]
          · rw [if_neg c2, if_neg (by omega)]
            have e1 : h1 ++ d.extract 0 at'.toNat ++ d.extract at'.toNat d.size = h1 ++ d := by
              rw [ByteArray.append_assoc, extract_all d _ (by omega)]
            have e2 : decide (((d.size : Nat) : Int) ≤ bu) = true := by simp; omega
            have e5 : Nat.ble (h1.size + d.size) 4611686018427387904 = true := by rw [Nat.ble_eq]; omega
            have e6 : bu - at' - (((d.size : Nat) : Int) - at') = bu - d.size := by omega
            have e7 : (bif decide (((d.size : Nat) : Int) < bu) then ((d.size : Nat) : Int) else bu) = d.size := by
              by_cases h : ((d.size : Nat) : Int) < bu
              · simp [h]
              · simp [h]; omega
            simp [e1, e2, e5, e6, e7, eqB_refl, F14_true, wrap_small (n := bu - d.size) (by omega) (by omega)]
      · have c : decide ((500 : Int) < ((d.size : Nat) : Int)) = true := by simp; omega
        simp [s0, s1, c, F14_true]
    · simp [s0, s1, F14_true]
  · simp [s0, F14_true]
theorem u16_bounds {n : Int} (h : (Lit.int .u16 n).wf = true) : 0 ≤ n ∧ n < 65536 := by
  simp [Lit.wf, IntKind.min, IntKind.max, IntKind.signed, IntKind.bits] at h
  omega
end Go.Proofs.Yt
namespace Go.Proofs.Ytfooilbkiclplaa
open Go Go.Ab Go.RowKit Go.WideShapes Go.ChangeShapes

section
variable {H : Type} {enc : TypeId × Value → H} {P : Program}
/-- Behind a call that leaves all that was there as it was. -/
theorem post_below {f : Func} {s : ChangeSpec} {apart fresh handsOn again : Bool} {W W' : World} {args : Array Value} {v : Value} {ds gs : List (DataW H)} {before pa pv : List MemPlace}
    (hW : DataW.Whole enc P f.params.toList s.vars apart W args.toList ds gs before)
    (hres : ∀ (b : Nat) (sp : Nat → Bool) (hd : Bool), DataW.TrodAll enc P W' b sp hd f.resultTypes.toList (v.resultList f.resultTypes.size) (s.fn H (ds ++ gs)).results [])
    (hargs : ∀ sp : Nat → Bool, (∀ p ∈ before, sp p.block = true) → DataW.TrodAll enc P W' 0 sp true f.params.toList args.toList (s.fn H (ds ++ gs)).args pa)
    (hvars : ∀ sp : Nat → Bool, (∀ p ∈ before, sp p.block = true) → DataW.TrodVars enc P W' sp s.vars (s.fn H (ds ++ gs)).vars pv)
    (hps : before = pa ++ pv) (hb : Below W.heap.size W W')
    (hok : ∀ (j : Nat) (t : TypeId) (r : Value), f.resultTypes[j]? = some t → (v.resultList f.resultTypes.size)[j]? = some r → Value.okWide P W' .any 0 t r) :
    s.post enc P f apart fresh handsOn again W args v W' := by
  have hlt : ∀ p ∈ before, p.block < W.heap.size := fun p hp => hW.lt p hp
  have hold : ∀ p ∈ before, (fun b => decide (b < W.heap.size)) p.block = true := fun p hp => by simpa using hlt p hp
  refine ⟨ds, gs, before, [], pa, pv, hW, hres _ _ _, hargs _ hold, hvars _ hold, World.keptBut_mono (fun p hp => ⟨hp, ?_⟩) (hb.frame (· ∈ before)), fun _ => ?_⟩
  · rw [hps, List.mem_append] at hp
    exact Or.inr hp
  · obtain ⟨_, _, _, _, _, hz, hn⟩ := hW
    refine ⟨hok, _, _, ([] ++ pa) ++ pv, ⟨[] ++ pa, pv, trodAll_append (hargs _ (fun _ _ => rfl)) (hres _ _ _), hvars _ (fun _ _ => rfl), rfl, ?_, ?_⟩, ?_⟩
    · intro b off hp
      have hin : MemPlace.cell b off ∈ before := by rw [hps]; simpa using hp
      rw [hb.frozen (hlt _ hin)]
      exact hz b off hin
    · intro ha
      have := hn ha
      rw [hps] at this
      simpa using this
    · intro p hp _
      rw [hps]
      simpa using hp
end
theorem trodAll_stays {H : Type} {enc : TypeId × Value → H} {P : Program} (hl : laidOutB P = true) {W W' : World} {sp : Nat → Bool} : ∀ (ts : List TypeId) (vs : List Value) (ds : List (DataW H)) (ps : List MemPlace),
    ts.all (fun t => P.readableRec t && decide (t < P.types.size)) = true → DataW.TrodAll enc P W 0 (fun _ => true) true ts vs ds ps → Below W.heap.size W W' → (∀ x ∈ ps, x.block < W.heap.size) → (∀ x ∈ ps, sp x.block = true) →
    DataW.TrodAll enc P W' 0 sp true ts vs ds ps
  | [], [], [], _, _, h, _, _, _ => h
  | t :: ts, v :: vs, d :: ds, ps, hr, ⟨p, q, h1, h2, e⟩, hb, hlt, hsp => by
    simp only [List.all_cons, Bool.and_eq_true, decide_eq_true_eq] at hr
    subst e
    exact ⟨p, q, WideElems.Trod_stays hl hr.1.1 hr.1.2 h1 (fun x hx => hb.same (hlt x (by simp [hx]))) (fun x hx => hsp x (by simp [hx])),
      trodAll_stays hl ts vs ds q (by simpa using hr.2) h2 hb (fun x hx => hlt x (by simp [hx])) (fun x hx => hsp x (by simp [hx])), rfl⟩
  | [], [], _ :: _, _, _, h, _, _, _ => h.elim
  | [], _ :: _, _, _, _, h, _, _, _ => by cases h
  | _ :: _, [], _, _, _, h, _, _, _ => by cases h
  | _ :: _, _ :: _, [], _, _, h, _, _, _ => by cases h
theorem Try.own : ownKnob Try.prog.godebug = none := by kernel_rfl
theorem Try.laidOut : laidOutB Try.prog = true := by kernel_rfl

def Plain3 : Prop := ∀ x : ArgT Yt.G Yt.sh3, WfA Yt.G Yt.sh3 x → Yt.e3.F x = some ((true, ()), ())
set_option maxRecDepth 100000 in
theorem splits_lifted (pl : Plain3) (os : Os) (started : os.Started) (H : Type) (enc : TypeId × Value → H) :
    ReturnsInHanded {} Try.checked os 3 .any (Rows.storeSplitsSpec.pre6 enc Try.prog Try.f3 Rows.storeSplitsRow.domain false) (Rows.storeSplitsSpec.post enc Try.prog Try.f3 false true false false) := by
  refine returnsInHanded_of_change (C := Try.checked) Try.own started (by kernel_rfl) Try.func3
    (ChangeSpec.witness6 (enc := enc) (C := Try.checked) false ⟨#[], #[.agg #[.string ⟨#[]⟩, .string ⟨#[]⟩, .int .i64 0], .string ⟨#[]⟩, .agg #[.int .u16 0, .int .u16 0]], []⟩ 8 (by kernel_rfl) (by kernel_rfl) (by kernel_rfl) (by kernel_rfl)) ?_
  intro W base args ds gs before hval0 hW hcnd _
  have hval : ∀ (j : Nat) t v, Try.f3.params[j]? = some t → args[j]? = some v → Value.okWide Try.prog W .any base t v := hval0
  have hW' := hW
  obtain ⟨p, q, hA0, hV, rfl, hfz, hnd⟩ := hW
  have hA : DataW.TrodAll enc Try.prog W 0 (fun _ => true) true Try.f3.params.toList args.toList ds p := hA0
  obtain ⟨rfl, rfl⟩ := trodVars_none hV
  obtain ⟨x, hx, hwf⟩ := open_all Yt.sigOK Yt.decOK (r := .any) (base := base) _ _ _ _ Yt.sh3 (by kernel_rfl) hA fun j t v ht hv => hval j t v (by simpa using ht) (by simpa using hv)
  have hcall := law_calls Yt.tb3 (g := 3) (e := Yt.e3) (by kernel_rfl) (by kernel_rfl) (pl x hwf) (b := true) (by kernel_rfl) hx
  refine Calls.mono (show Calls Try.prog 3 args W (fun e W' => e = .returned (.bool true) ∧ Below W.heap.size W W') from by simpa using hcall) fun e W' ⟨he, hb⟩ => ?_
  subst he
  have hlt : ∀ y ∈ p ++ [], y.block < W.heap.size := fun y hy => hW'.lt y hy
  have hlt : ∀ y ∈ p, y.block < W.heap.size := fun y hy => hlt y (by simpa using hy)
  obtain ⟨v0, v1, v2, d0, d1, d2, p0, p1, p2, hargs, rfl, rfl, h0, h1, h2⟩ := trodAll_three (by rw [Try.params3] at hA; exact hA)
  refine ⟨_, rfl, post_below (pa := p0 ++ p1 ++ p2) (pv := []) hW' (fun _ _ _ => ?_) (fun sp hsp => ?_) (fun _ _ => rfl) (by simp) hb (ok_one (t := 4) (by kernel_rfl) rfl ?_)⟩
  · exact trodAll_mk1 (shut_bool Try.underlying4 true)
  · exact trodAll_stays Try.laidOut _ _ _ _ (by kernel_rfl) hA hb hlt (fun y hy => hsp y (by simpa using hy))
  · show Value.okWide Try.prog W' .any 0 4 (.bool true)
    simp [Value.okWide, Cell.okWide, Cell.ok, Try.underlying4]
theorem splits_of_plain (pl : Plain3) : Rows.StoreSplitsSaid :=
  OpenClaim.holds_of_wide 3 Try.f3 rfl rfl rfl rfl rfl rfl rfl ⟨rfl, rfl, rfl, rfl, rfl⟩ rfl rfl rfl rfl rfl (by kernel_rfl) Try.func3 (by kernel_rfl)
    (of_decide_eq_true (by kernel_rfl)) (by unfold Func.isWrapper; rw [if_neg (of_decide_eq_false (by kernel_rfl))]; exact ⟨rfl, rfl⟩)
    (fun os started H enc _ => splits_lifted pl os started H enc)
theorem plain3 : Plain3 := fun x hwf => by
  have g : ∀ n : Int, WfC Yt.G (.sc (.int .u16 n)) → 0 ≤ n ∧ n < 65536 := fun n h => by
    cases h with
    | int _ _ h => exact Yt.u16_bounds h
  have ha := g x.2.2.1.1 (hwf (.agg [.sc (.int .u16 x.2.2.1.1), .sc (.int .u16 x.2.2.1.2.1)]) (.tail _ (.tail _ (.head _))) _ (.head _))
  have hb := g x.2.2.1.2.1 (hwf (.agg [.sc (.int .u16 x.2.2.1.1), .sc (.int .u16 x.2.2.1.2.1)]) (.tail _ (.tail _ (.head _))) _ (.tail _ (.head _)))
  exact Yt.F3_true _ _ _ _ _ _ ha hb
theorem splits_holds : Rows.StoreSplitsSaid := splits_of_plain plain3
end Go.Proofs.Ytfooilbkiclplaa
