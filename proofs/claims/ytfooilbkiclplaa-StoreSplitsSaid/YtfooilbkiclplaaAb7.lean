/- Each operation: what the evaluator says, the model does. Second half. -/
import Derived.Test.YtfooilbkiclplaaAb6
namespace Go.Ab
variable {G : Sig}

section
variable {P : Program} {ν : Nat → Option Value} {S B : Nat → Prop} {h : Nat → Option (Blk G.T)} {w : World} {ρ : Operand → Value} {o : Oper}
variable (ok : SigOK P G) {ev : Operand → Option (Sv G.T)} (hev : ∀ x s, ev x = some s → Rs G ν S w.heap s (ρ x)) (hr : HRel G ν S B h w) (hB : ∀ b, w.heap.size ≤ b → B b)
  {cf : CallF G} {nm : Nat} {out : Out G} (hfresh : ∀ n ∈ out.nw, ν n = none)

theorem shiftP_sound {d : Nat} {c c' : Cv G.T} (hs : shiftP d c = some c') {v : Value} (hv : Rc G ν S w.heap c v) :
    ∃ b off, v = .pointer (some ⟨b, off, none⟩) ∧ Rc G ν S w.heap c' (.pointer (some ⟨b, off + d, none⟩)) := by
  cases c with
  | ptr n off => simp [shiftP] at hs; subst hs; obtain ⟨b, h1, rfl⟩ := hv; exact ⟨b, off, rfl, b, h1, rfl⟩
  | pd n off s len i =>
    simp [shiftP] at hs; subst hs
    obtain ⟨hi, b, h1, rfl⟩ := hv
    exact ⟨b, off + i * s, rfl, hi, b, h1, by simp only [Value.pointer.injEq, Option.some.injEq, Addr.mk.injEq, and_true, true_and]; omega⟩
  | pr n t i off =>
    simp [shiftP] at hs; subst hs
    obtain ⟨b, len, cap, h1, hi, rfl⟩ := hv
    exact ⟨b, i * G.sz t + off, rfl, b, len, cap, h1, hi, by rw [Nat.add_assoc]⟩
  | rp t x off =>
    simp [shiftP] at hs; subst hs
    cases hv with
    | rp _ _ _ b base c te fz vs hS hb hc hrd => exact ⟨b, base + off, rfl, by rw [Nat.add_assoc]; exact .rp t x (off + d) b base c te fz vs hS hb hc hrd⟩
  | sc v => simp [shiftP] at hs
  | own m => simp [shiftP] at hs
  | ro t l => simp [shiftP] at hs
  | clo f p q => simp [shiftP] at hs

include ok in
theorem field_at {t f : Nat} {fs : List (Nat × Nat)} (ht : G.ty t = .st fs) {o : Nat × Nat} (hf : fs[f]? = some o) :
    ∃ fields fld, P.underlying t = some (.struct fields) ∧ fields[f]? = some fld ∧ fld.offset = o.1 ∧ fld.type = o.2 ∧ G.ty o.2 ≠ .no := by
  obtain ⟨fields, h1, h2, h3⟩ := ok.strc t fs ht
  rw [← h2] at hf
  rw [List.getElem?_map] at hf
  cases hq : fields.toList[f]? with
  | none => simp [hq] at hf
  | some fld =>
    simp [hq] at hf
    refine ⟨fields, fld, h1, by simpa using hq, by rw [← hf], by rw [← hf], ?_⟩
    refine h3 o.1 o.2 ?_
    rw [← h2]
    exact List.mem_map.2 ⟨fld, List.mem_of_getElem? hq, by rw [← hf]⟩

include hev
omit hev in
theorem inB_iff {i : Int} {n : Nat} (hb : inB i n = true) : 0 ≤ i ∧ i < n := by simpa [inB] using hb
include hr

include ok in
theorem fieldAddr_runs {t f : Nat} {x : Operand} (ho : o.op = .fieldAddr t x f) (hact : aFieldAddr ev t x f (Out G) some = some out) : Runs P G ρ o ν S B h w out := by
  unfold aFieldAddr at hact
  cases ht : G.ty t with
  | st fs =>
    simp only [ht] at hact
    obtain ⟨c, hc, hact⟩ := bindC hact
    obtain ⟨o', hf, hact⟩ := M.bindopt hact
    obtain ⟨c', hs, hact⟩ := M.bindopt hact
    simp [M.ret] at hact; subst hact
    obtain ⟨b, off, hv, hrc⟩ := shiftP_sound hs (rcOf hev hc)
    obtain ⟨fields, fld, h1, h2, h3, h4, h5⟩ := field_at ok ht hf
    refine Runs.outP hr (v := .pointer (some ⟨b, off + o'.1, none⟩)) ?_ (.one _ _ hrc)
    have hpos := ok.pos _ h5
    unfold execOp; rw [ho]
    simp only [Instr.fieldAt, Sem.run_bind, run_underlying h1 w, Result.andThen_ok, h2, hv, Instr.sureAddr, Sem.run_pure, fieldPlace, h4, ok.sizeOf w h5, h3, add_mk]
    rw [if_neg (by omega)]
    rfl
  | _ => simp [ht, M.fail] at hact

include ok in
theorem field_runs {t f : Nat} {x : Operand} (ho : o.op = .field t x f) (hact : aField ev t x f (Out G) some = some out) : Runs P G ρ o ν S B h w out := by
  unfold aField at hact
  cases ht : G.ty t with
  | st fs =>
    simp only [ht] at hact
    obtain ⟨c, hc, hact⟩ := bindP hact
    have hrp := rpOf hev hc
    generalize hu : ρ x = u at hrp
    cases hrp with
    | one c v hc' => simp [fieldP, M.fail] at hact
    | agg ds vs hf2 =>
    simp only [fieldP] at hact
    obtain ⟨o', hf, hact⟩ := M.bindopt hact
    obtain ⟨cs, hcs, hact⟩ := M.bindopt hact
    obtain ⟨y, hy, hact⟩ := M.bindopt hact
    simp [M.ret] at hact; subst hact
    obtain ⟨fields, fld, h1, h2, h3, h4, h5⟩ := field_at ok ht hf
    obtain ⟨p1, p2, p3⟩ := part_spec hcs
    have hlen := hf2.1
    have hF : F2 (Rc G ν S w.heap) cs ((vs.drop o'.1).take (G.sz o'.2)) := by
      refine ⟨by simp; omega, fun i a b ha hb => ?_⟩
      have hi : i < G.sz o'.2 := by have := (List.getElem?_eq_some_iff.1 ha).1; omega
      rw [p3 i hi] at ha
      rw [List.getElem?_take_of_lt hi, List.getElem?_drop] at hb
      exact hf2.2 _ a b ha hb
    refine Runs.outP hr (v := if (G.ty o'.2).isAgg then .agg ((vs.drop o'.1).take (G.sz o'.2)).toArray else ((vs.drop o'.1).take (G.sz o'.2)).getD 0 undef) ?_ (rp_of_cells hy hF)
    unfold execOp; rw [ho]
    simp only [Instr.field, Sem.run_bind, run_underlying h1 w, Result.andThen_ok, h2, hu, asAgg, Sem.run_pure, Go.part, h4, ok.isAgg w h5]
    cases ha : (G.ty o'.2).isAgg with
    | true =>
      simp only [if_true, Sem.run_bind, ok.sizeOf w h5, Result.andThen_ok, h3]
      simp
    | false =>
      have hpos := ok.pos _ h5
      have hlt : o'.1 < vs.length := by omega
      rw [List.getD, List.getElem?_take_of_lt hpos]
      simp [h3, hlt]
  | _ => simp [ht, M.fail] at hact
end
end Go.Ab
