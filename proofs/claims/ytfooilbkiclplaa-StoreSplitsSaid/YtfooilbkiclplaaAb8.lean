/- Each operation: what the evaluator says, the model does. Third part: indices, slices, scalars. -/
import Derived.Test.YtfooilbkiclplaaAb7
namespace Go.Ab
variable {G : Sig}

/-- What is asked besides: that '==' on structs and arrays goes cell by cell. -/
def eqVs : List Value → List Value → Option Bool
  | [], [] => some true
  | a :: as, b :: bs =>
    match eqV a b, eqVs as bs with
    | some x, some y => some (x && y)
    | _, _ => none
  | _, _ => none
structure EqOK (P : Program) (G : Sig) : Prop where
  guard : ∀ t, (G.ty t).isAgg = true → P.eqGuardType P.depth t = false
  eq : ∀ t (xs ys : List Value) b w, (G.ty t).isAgg = true → eqTb G 20 t = true → mapK kindV xs = zk G t → mapK kindV ys = zk G t → eqVs xs ys = some b → (Op.equal t (.agg xs.toArray) (.agg ys.toArray)).run P w = .ok b w

section
variable {P : Program} {ν : Nat → Option Value} {S B : Nat → Prop} {h : Nat → Option (Blk G.T)} {w : World} {ρ : Operand → Value} {o : Oper}
variable (ok : SigOK P G) {ev : Operand → Option (Sv G.T)} (hev : ∀ x s, ev x = some s → Rs G ν S w.heap s (ρ x)) (hr : HRel G ν S B h w) (hB : ∀ b, w.heap.size ≤ b → B b)
  {cf : CallF G} {nm : Nat} {out : Out G} (hfresh : ∀ n ∈ out.nw, ν n = none)
include hev hr ok

theorem indexAddr_runs {t : Nat} {x i : Operand} (ho : o.op = .indexAddr t x i) (hact : aIndexAddr ev h t x i (Out G) some = some out) : Runs P G ρ o ν S B h w out := by
  unfold aIndexAddr at hact
  cases ht : G.ty t with
  | arr n e =>
    simp only [ht] at hact
    obtain ⟨c, hc, hact⟩ := bindC hact
    obtain ⟨k, j, hj, hact⟩ := bindI hact
    obtain ⟨hu, he⟩ := ok.arr t n e ht
    cases c with
    | ptr b off =>
      simp only [ixA] at hact
      obtain ⟨hb, hact⟩ := M.bindneed hact
      simp [M.ret] at hact; subst hact
      obtain ⟨h0, h1⟩ := inB_iff hb
      obtain ⟨b', hb', hv⟩ := rcOf hev hc
      have hρ := (scOf hev hj).1
      refine Runs.outP hr (v := .pointer (some ⟨b', off + j.toNat * G.sz e, none⟩)) ?_ (.one _ _ ⟨by omega, b', hb', rfl⟩)
      unfold execOp; rw [ho]
      simp only [Instr.indexAt, hρ, asIntOf, Sem.run_bind, Sem.run_pure, Result.andThen_ok, run_underlying hu w, hv, Instr.sureAddr, Sem.run_ite, ok.sizeOf w he, add_mk]
      rw [if_pos ⟨h0, h1⟩]; rfl
    | _ => simp [ixA, M.fail] at hact
  | sl e =>
    simp only [ht] at hact
    obtain ⟨c, hc, hact⟩ := bindC hact
    obtain ⟨k, j, hj, hact⟩ := bindI hact
    obtain ⟨hu, he, _⟩ := ok.sl t e ht
    have hρ := (scOf hev hj).1
    have key : ∀ (b off len cap : Nat), ρ x = .slice (some ⟨b, off, none⟩) len cap → 0 ≤ j → j < len →
        (execOp ρ o).run P w = .ok (.value (.pointer (some ⟨b, off + j.toNat * G.sz e, none⟩))) w := by
      intro b off len cap hv h0 h1
      unfold execOp; rw [ho]
      simp only [Instr.indexAt, hρ, asIntOf, Sem.run_bind, Sem.run_pure, Result.andThen_ok, run_underlying hu w, hv, Sem.run_ite, ok.sizeOf w he, add_mk]
      rw [if_pos ⟨h0, h1⟩]; rfl
    cases c with
    | own m =>
      simp only [ixS] at hact
      cases hm : h m with
      | none => simp [hm, M.fail] at hact
      | some blk =>
        cases blk with
        | cells cs => simp [hm, M.fail] at hact
        | row e' l =>
          simp only [hm] at hact
          obtain ⟨hee, ha1⟩ := M.bindneed hact
          obtain ⟨hb, ha2⟩ := M.bindneed ha1
          have hee' := beq_true.1 hee
          simp [M.ret] at ha2; subst ha2; subst hee'
          obtain ⟨h0, h1⟩ := inB_iff hb
          obtain ⟨a, len, cap, hνm, hv⟩ := rcOf hev hc
          rcases hr.blk m _ hm with ⟨g1, g2⟩ | ⟨b, cap', c, te, g1, g2, g3, g4, g5⟩
          · subst g2; simp at h1; omega
          · rw [hνm] at g1; simp at g1; rw [g1] at hv hνm
            refine Runs.value hr rfl (v := .pointer (some ⟨b, 0 + j.toNat * G.sz e', none⟩)) (key b 0 _ _ g1 h0 h1) fun s hs => ?_
            simp at hs; subst hs
            exact .p _ _ (.one _ _ ⟨b, _, _, hνm, by omega, by simp⟩)
    | ro e' l =>
      simp only [ixS] at hact
      obtain ⟨hee, ha1⟩ := M.bindneed hact
      obtain ⟨hb, ha2⟩ := M.bindneed ha1
      have hee' := beq_true.1 hee
      simp [M.ret] at ha2; subst ha2; subst hee'
      obtain ⟨h0, h1⟩ := inB_iff hb
      have hrc : Rd G S w.heap (.ro e' l) (ρ x) := rcOf hev hc
      generalize hu' : ρ x = u at hrc
      cases hrc with
      | nil _ a cap => simp at h1; omega
      | ro _ _ b off cap c te fz vs hS hb' hcap hcell hrd =>
        have hi : j.toNat < l.length := by omega
        refine Runs.outP hr (key b off _ _ hu' h0 h1) (.one _ _ ?_)
        have := Rd.rp (G := G) (S := S) (h := w.heap) e' (l.getD j.toNat (G.dfl e')) 0 b (off + j.toNat * G.sz e') c te fz (fun q => vs j.toNat q) hS hb' (fun q hq => by rw [hcell _ _ hi hq])
          (fun q cv hq => hrd j.toNat q _ cv (by simp [hi]) hq)
        exact this
    | _ => simp [ixS, M.fail] at hact
  | _ => simp [ht, M.fail] at hact

theorem index_runs {t : Nat} {x i : Operand} (ho : o.op = .index t x i) (hact : aIndex ev t x i (Out G) some = some out) : Runs P G ρ o ν S B h w out := by
  unfold aIndex at hact
  cases ht : G.ty t with
  | str =>
    simp only [ht] at hact
    obtain ⟨c, hc, hact⟩ := bindC hact
    obtain ⟨k, j, hj, hact⟩ := bindI hact
    unfold ixV at hact
    cases c with
    | sc v =>
      cases v with
      | string s =>
      obtain ⟨hb, hact⟩ := M.bindneed hact
      simp [M.ret] at hact; subst hact
      obtain ⟨h0, h1⟩ := inB_iff hb
      have hρ := (scOf hev hj).1
      have hρ' := (scOf hev hc).1
      refine Runs.outV hr ?_ rfl
      have hlt : j.toNat < s.data.size := by
        have : (s.size : Int) = s.data.size := rfl
        omega
      have hget : (s[j.toNat]? : Option UInt8) = some (s.data[j.toNat]) := by
        have : j.toNat < s.size := hlt
        simp [getElem?_pos, this]; rfl
      unfold execOp; rw [ho]
      simp only [Instr.index, hρ, hρ', asIntOf, Sem.run_bind, Sem.run_pure, Result.andThen_ok, run_underlying (ok.str t ht) w, h0, if_true, hget, byteAt]
      rw [Array.getD_eq_getD_getElem?, Array.getElem?_eq_getElem hlt]
      rfl
      | _ => simp [M.fail] at hact
    | _ => simp [M.fail] at hact
  | _ => simp [ht, M.fail] at hact
omit ok
theorem makeFunc_runs {f : Nat} {a b : Array Operand} (ho : o.op = .makeFunc (.func f) a b) (hact : aFunc ev f a.toList b.toList (Out G) some = some out) : Runs P G ρ o ν S B h w out := by
  unfold aFunc at hact
  obtain ⟨as, hact, ha⟩ := bindPs hact
  obtain ⟨bs, hact, hb⟩ := bindPs hact
  obtain ⟨as', ha', hact⟩ := M.bindopt hact
  obtain ⟨bs', hb', hact⟩ := M.bindopt hact
  simp [M.ret] at hact; subst hact
  have key : ∀ (xs : List Operand) (ys : List (Pv G.T)) (zs : List (Nat × Nat)), F2 (fun x y => ev x = some (.p y)) xs ys → mapO ptrOf ys = some zs → F2 (RPtr ν) zs (xs.map ρ) := by
    intro xs ys zs hF hm
    obtain ⟨m1, m2⟩ := mapO_spec _ _ hm
    refine ⟨by simp [m1, hF.1], fun i z v hz hv => ?_⟩
    rw [List.getElem?_map] at hv
    cases hx : xs[i]? with
    | none => simp [hx] at hv
    | some x =>
      simp [hx] at hv; subst hv
      obtain ⟨y, hy, hxy⟩ := hF.get hx
      obtain ⟨z', hz', hp⟩ := m2 i y hy
      rw [hz] at hz'; simp at hz'; subst hz'
      unfold ptrOf at hp
      split at hp
      · rename_i n off
        simp at hp; subst hp
        exact rcOf hev hxy
      · simp at hp
  refine Runs.outP hr (v := .func (.func f) (a.toList.map ρ).toArray (b.toList.map ρ).toArray) ?_ (.one _ _ ⟨_, _, rfl, key _ _ _ ha ha', key _ _ _ hb hb'⟩)
  unfold execOp; rw [ho]
  simp [Instr.makeFunc, ← Array.toList_map]
omit hr
theorem bound_spec {R : Type} {r : R} {k : Nat → Option R} {d m : Nat} {x : Option Operand} (hx : evBound ev d m x R k = some r) :
    ∃ n, k n = some r ∧ ((x = none ∧ n = d) ∨ ∃ y kd, x = some y ∧ ρ y = .int kd (n : Int) ∧ n ≤ m) := by
  cases x with
  | none => exact ⟨d, hx, .inl ⟨rfl, rfl⟩⟩
  | some y =>
    unfold evBound at hx
    obtain ⟨kd, i, hi, hx⟩ := bindI hx
    obtain ⟨hb, hx⟩ := M.bindneed hx
    simp at hb
    have := (scOf hev hi).1
    exact ⟨i.toNat, hx, .inr ⟨y, kd, rfl, by rw [this]; congr 1; omega, by omega⟩⟩
omit hev in
theorem run_bounds {isS : Bool} {len cap m a b : Nat} {lo hi : Option Operand} (hb : (hi = none ∧ b = len) ∨ ∃ y kd, hi = some y ∧ ρ y = .int kd (b : Int) ∧ b ≤ m) (hm : m ≤ cap)
    (ha : (lo = none ∧ a = 0) ∨ ∃ y kd, lo = some y ∧ ρ y = .int kd (a : Int) ∧ a ≤ b) :
    (Instr.sliceBounds isS len cap (lo.map ρ) (hi.map ρ) none).run P w = .ok (a, b, cap) w := by
  have one : ∀ (kd : IntKind) (n y : Nat) (code : BoundsCode), n ≤ y → (Instr.sliceBound (.int kd (n : Int)) y code).run P w = .ok n w := by
    intro kd n y code hn
    have : (0 : Int) ≤ (n : Int) ∧ (n : Int) ≤ (y : Int) := by omega
    simp [Instr.sliceBound, asIntOf, this]
  unfold Instr.sliceBounds
  rcases hb with ⟨rfl, rfl⟩ | ⟨y, kd, rfl, hy, hyb⟩ <;> rcases ha with ⟨rfl, rfl⟩ | ⟨z, kd', rfl, hz, hza⟩
  · simp
  · simp [hz, one _ _ _ _ hza]
  · simp [hy, one _ _ _ _ (Nat.le_trans hyb hm)]
  · simp [hy, hz, one _ _ _ _ (Nat.le_trans hyb hm), one _ _ _ _ hza]
include hr ok
theorem slice_runs {t : Nat} {x : Operand} {lo hi mx : Option Operand} (ho : o.op = .slice t x lo hi mx) (hact : aSlice ev t x lo hi mx (Out G) some = some out) : Runs P G ρ o ν S B h w out := by
  unfold aSlice at hact
  cases mx with
  | some y => simp [M.fail] at hact
  | none =>
  simp only at hact
  cases ht : G.ty t with
  | str =>
    simp only [ht] at hact
    obtain ⟨c, hc, hact⟩ := bindC hact
    unfold sliceS at hact
    cases c with
    | sc v =>
      cases v with
      | string s =>
        obtain ⟨b, h1, hb⟩ := bound_spec hev (M.bind_spec hact)
        obtain ⟨a, h2, ha⟩ := bound_spec hev (M.bind_spec h1)
        simp [M.ret] at h2; subst h2
        have hρ := (scOf hev hc).1
        refine Runs.outV hr ?_ rfl
        unfold execOp; rw [ho]
        simp only [Instr.sliceAt, Instr.slice, hρ, Sem.run_bind, Result.andThen_ok, run_underlying (ok.str t ht) w, Option.map_none]
        simp [run_bounds (P := P) (w := w) (isS := false) hb (Nat.le_refl _) ha]
      | _ => simp [M.fail] at hact
    | _ => simp [M.fail] at hact
  | sl e =>
    simp only [ht] at hact
    obtain ⟨c, hc, hact⟩ := bindC hact
    obtain ⟨hu, he, _⟩ := ok.sl t e ht
    unfold sliceR at hact
    cases c with
    | ro e' l =>
      obtain ⟨hee, h0⟩ := M.bindneed hact
      have hee' := beq_true.1 hee
      obtain ⟨b, h1, hb⟩ := bound_spec hev (M.bind_spec h0)
      obtain ⟨a, h2, ha⟩ := bound_spec hev (M.bind_spec h1)
      simp [M.ret] at h2; subst h2; subst hee'
      have hbl : b ≤ l.length := by rcases hb with ⟨_, rfl⟩ | ⟨_, _, _, _, hb⟩ <;> omega
      have hab : a ≤ b := by rcases ha with ⟨_, rfl⟩ | ⟨_, _, _, _, ha⟩ <;> omega
      have hrun : ∀ (a0 : Option Addr) (cap : Nat), l.length ≤ cap → ρ x = .slice a0 l.length cap →
          (execOp ρ o).run P w = .ok (.value (.slice (if cap = a then a0 else a0.map (·.add (a * G.sz e'))) (b - a) (cap - a))) w := by
        intro a0 cap hcap hv
        unfold execOp; rw [ho]
        simp only [Instr.sliceAt, Instr.slice, hv, Sem.run_bind, Result.andThen_ok, run_underlying hu w, Option.map_none]
        simp [run_bounds (P := P) (w := w) (isS := true) hb hcap ha, ok.sizeOf w he]
      have hrc : Rd G S w.heap (.ro e' l) (ρ x) := rcOf hev hc
      generalize hux : ρ x = u at hrc
      have hll : ((l.take b).drop a).length = b - a := by simp; omega
      have fin : ∀ v, Rd G S w.heap (.ro e' ((l.take b).drop a)) v → (execOp ρ o).run P w = .ok (.value v) w → Runs P G ρ o ν S B h w (outP (.one (.ro e' ((l.take b).drop a)))) :=
        fun v hv hx => Runs.outP hr hx (.one _ _ hv)
      cases hrc with
      | nil _ a0 cap =>
        have hb0 : b = 0 := by simpa using hbl
        have ha0 : a = 0 := by omega
        subst hb0; subst ha0
        refine fin _ ?_ (hrun a0 cap (by simp) (by simpa using hux))
        simp; exact .nil _ _ _
      | ro _ _ bb off cap c te fz vs hS hb' hcap hcell hrd =>
        refine fin _ ?_ (hrun _ cap hcap hux)
        by_cases hz : b = a
        · have : (l.take b).drop a = [] := List.eq_nil_of_length_eq_zero (by rw [hll]; omega)
          rw [this, show b - a = 0 by omega]
          exact .nil _ _ _
        · rw [if_neg (by omega)]
          simp only [Option.map_some, add_mk]
          rw [← hll]
          refine .ro e' _ bb (off + a * G.sz e') (cap - a) c te fz (fun i j => vs (a + i) j) hS hb' (by rw [hll]; omega) (fun i j hi hj => ?_) (fun i j x' cv hx' hcv => ?_)
          · rw [hll] at hi
            rw [← hcell (a + i) j (by omega) hj]
            congr 1
            rw [Nat.add_mul]; omega
          · have hi : i < b - a := by have := (List.getElem?_eq_some_iff.1 hx').1; omega
            rw [List.getElem?_drop, List.getElem?_take_of_lt (by omega)] at hx'
            exact hrd (a + i) j x' cv hx' hcv
    | _ => simp [M.fail] at hact
  | _ => simp [ht, M.fail] at hact
theorem conv_runs {s t : Nat} {x : Operand} (ho : o.op = .convert s t x) (hact : aConv ev s t x (Out G) some = some out) : Runs P G ρ o ν S B h w out := by
  unfold aConv at hact
  obtain ⟨hs, h0⟩ := M.bindneed hact
  obtain ⟨c, hc, h1⟩ := bindC h0
  have hsu : ∃ d, P.underlying s = some d := by
    cases hts : G.ty s with
    | no => simp [hts, isNo] at hs
    | bool => exact ⟨_, ok.bool s hts⟩
    | int k => exact ⟨_, ok.int s k hts⟩
    | flt k => exact ⟨_, ok.flt s k hts⟩
    | str => exact ⟨_, ok.str s hts⟩
    | sl e => exact ⟨_, (ok.sl s e hts).1⟩
    | pt e => exact ⟨_, ok.pt s e hts⟩
    | fn => obtain ⟨a, b, c, hd⟩ := ok.fn s hts; exact ⟨_, hd⟩
    | st fs => obtain ⟨a, hd, _⟩ := ok.strc s fs hts; exact ⟨_, hd⟩
    | arr n e => exact ⟨_, (ok.arr s n e hts).1⟩
  obtain ⟨d, hd⟩ := hsu
  unfold convC at h1
  cases c with
  | sc v =>
    have hρ := (scOf hev hc).1
    cases hty : G.ty t with
    | int k =>
      cases v with
      | int k' n =>
        simp [hty, M.ret] at h1; subst h1
        refine Runs.outV hr ?_ rfl
        unfold execOp; rw [ho]
        simp [Go.convert, hρ, run_underlying hd w, run_underlying (ok.int t k hty) w, Conv.intToInt]
      | _ => simp [hty, M.fail] at h1
    | str =>
      cases v with
      | string s' =>
        simp [hty, M.ret] at h1; subst h1
        refine Runs.outV hr ?_ rfl
        unfold execOp; rw [ho]
        simp [Go.convert, hρ, run_underlying hd w, run_underlying (ok.str t hty) w]
      | _ => simp [hty, M.fail] at h1
    | _ => simp [hty, M.fail] at h1
  | _ => simp [M.fail] at h1
end
end Go.Ab
