/- Each operation: what the evaluator says, the model does. Fourth part: arithmetic, literals, make, append. -/
import Derived.Test.YtfooilbkiclplaaAb8
namespace Go.Ab
variable {G : Sig}

theorem bin_sound {op : BinOp} {x y : Value} {R : Type} {k : Value → Option R} {r : R} (P : Program) (t : TypeId) (w : World) (h : bin op x y R k = some r) :
    ∃ v, k v = some r ∧ isSc v = true ∧ (binOp op t x y).run P w = .ok v w := by
  cases x with
  | int a m =>
    cases y with
    | int b n =>
      have arith : ∀ (f : Int) , (M.bind (M.need (eqIK a b)) fun _ => M.ret (Value.int a f)) R k = some r → (a = b → (binOp op t (.int a m) (.int b n)).run P w = .ok (.int a f) w) → ∃ v, k v = some r ∧ isSc v = true ∧ (binOp op t (.int a m) (.int b n)).run P w = .ok v w := by
        intro f hf hrun
        obtain ⟨he, h1⟩ := M.bindneed hf
        exact ⟨_, h1, rfl, hrun (eqIK_eq he)⟩
      cases op with
      | add => exact arith _ h fun e => by subst e; simp [binOp, Op.intArith]
      | sub => exact arith _ h fun e => by subst e; simp [binOp, Op.intArith]
      | mul => exact arith _ h fun e => by subst e; simp [binOp, Op.intArith]
      | quo =>
        simp only [bin, binInt] at h
        obtain ⟨he, h1⟩ := M.bindneed h
        obtain ⟨hn, h2⟩ := M.bindneed h1
        have e := eqIK_eq he; subst e
        have hn' : n ≠ 0 := by simpa using hn
        exact ⟨_, h2, rfl, by simp [binOp, Op.intDiv, hn']⟩
      | rem =>
        simp only [bin, binInt] at h
        obtain ⟨he, h1⟩ := M.bindneed h
        obtain ⟨hn, h2⟩ := M.bindneed h1
        have e := eqIK_eq he; subst e
        have hn' : n ≠ 0 := by simpa using hn
        exact ⟨_, h2, rfl, by simp [binOp, Op.intDiv, hn']⟩
      | shl =>
        simp only [bin, binInt] at h
        obtain ⟨he, h1⟩ := M.bindneed h
        obtain ⟨q, hq, h2⟩ := M.bindopt h1
        simp [shI] at hq; subst hq
        have hb : ¬ n < 0 := by simpa using he
        exact ⟨_, h2, rfl, by simp [binOp, Op.shift, hb]⟩
      | shr =>
        simp only [bin, binInt] at h
        obtain ⟨he, h1⟩ := M.bindneed h
        obtain ⟨q, hq, h2⟩ := M.bindopt h1
        simp [shI] at hq; subst hq
        have hb : ¬ n < 0 := by simpa using he
        exact ⟨_, h2, rfl, by simp [binOp, Op.shift, hb]⟩
      | and | or | xor | andNot =>
        simp only [bin, binInt] at h
        obtain ⟨he, h1⟩ := M.bindneed h
        obtain ⟨q, hq, h2⟩ := M.bindopt h1
        simp [bitI] at hq; subst hq
        have e := eqIK_eq he; subst e
        exact ⟨_, h2, rfl, by simp [binOp, Op.intBits]⟩
      | eql | neq | lss | leq | gtr | geq =>
        simp only [bin, binInt] at h
        obtain ⟨he, h1⟩ := M.bindneed h
        obtain ⟨q, hq, h2⟩ := M.bindopt h1
        simp [cmpI] at hq; subst hq
        have e := eqIK_eq he; subst e
        exact ⟨_, h2, rfl, by simp [binOp, Op.intCmp]⟩
    | _ => simp [bin, M.fail] at h
  | float a m =>
    cases y with
    | float b n =>
      simp only [bin, binFlt] at h
      obtain ⟨he, h1⟩ := M.bindneed h
      obtain ⟨q, hq, h2⟩ := M.bindopt h1
      have e := eqFK_eq he; subst e
      refine ⟨_, h2, rfl, ?_⟩
      cases op <;> simp [ordF] at hq <;> subst hq <;> simp [binOp, Op.floatCmp]
    | _ => simp [bin, M.fail] at h
  | string a =>
    cases y with
    | string b =>
      cases op with
      | add =>
        simp only [bin, binStr] at h
        obtain ⟨he, h1⟩ := M.bindneed h
        refine ⟨_, h1, rfl, ?_⟩
        have : ¬ (((a.size + b.size : Nat) : Int) > IntKind.i64.max) := by
          have h2 := Nat.le_of_ble_eq_true he
          have : IntKind.i64.max = 9223372036854775807 := rfl
          rw [this]; omega
        simp only [binOp, Op.stringOp, if_neg this]; rfl
      | eql | neq | lss | leq | gtr | geq => exact ⟨_, h, rfl, by simp [binOp, Op.stringOp, eqB, ltB]⟩
      | _ => simp [bin, binStr, M.fail] at h
    | _ => simp [bin, M.fail] at h
  | _ => simp [bin, M.fail] at h

theorem eq_bool {P : Program} {t : TypeId} (hu : P.underlying t = some .bool) (a b : Bool) (w : World) : (Op.equal t (.bool a) (.bool b)).run P w = .ok (a == b) w := by
  have key : ∀ d : Nat, (Op.equalIn (d + 1) t (.bool a) (.bool b)).run P w = .ok (a == b) w := fun d => by simp [Op.equalIn, run_underlying hu]
  exact key 9999

section
variable {P : Program} {ν : Nat → Option Value} {S B : Nat → Prop} {h : Nat → Option (Blk G.T)} {w : World} {ρ : Operand → Value} {o : Oper}
variable (ok : SigOK P G) (eqok : EqOK P G) {ev : Operand → Option (Sv G.T)} (hev : ∀ x s, ev x = some s → Rs G ν S w.heap s (ρ x)) (hr : HRel G ν S B h w) (hB : ∀ b, w.heap.size ≤ b → B b)
  {cf : CallF G} {nm : Nat} {out : Out G} (hfresh : ∀ n ∈ out.nw, ν n = none)
include hev hr
theorem un_runs {op : UnOp} {t : Nat} {x : Operand} (ho : o.op = .unOp op t x) (hact : aUn ev op x (Out G) some = some out) : Runs P G ρ o ν S B h w out := by
  unfold aUn at hact
  obtain ⟨c, hc, h1⟩ := bindC hact
  unfold unP at h1
  cases c with
  | sc v =>
    have hρ := (scOf hev hc).1
    cases op <;> cases v <;> simp [M.fail] at h1
    · simp [M.ret] at h1; subst h1
      refine Runs.outV hr ?_ rfl
      unfold execOp; rw [ho]; simp [hρ, Op.unary, Op.intArith]
    · obtain ⟨q, hq, h2⟩ := M.bindopt h1
      simp [bitI] at hq; subst hq
      simp [M.ret] at h2; subst h2
      refine Runs.outV hr ?_ rfl
      unfold execOp; rw [ho]; simp [hρ, Op.unary, Op.intBits]
    · simp [M.ret] at h1; subst h1
      refine Runs.outV hr ?_ rfl
      unfold execOp; rw [ho]; simp [hρ, Op.unary]
  | _ => cases op <;> simp [M.fail] at h1
include ok eqok
theorem bin_runs {op : BinOp} {t t' : Nat} {x y : Operand} (ho : o.op = .binOp op t x y t') (hact : aBin ev op t x y (Out G) some = some out) : Runs P G ρ o ν S B h w out := by
  unfold aBin at hact
  obtain ⟨a, ha, h1⟩ := bindP hact
  obtain ⟨b, hb, h2⟩ := bindP h1
  unfold binP at h2
  cases a with
  | one c =>
    cases b with
    | one d =>
      cases c with
      | sc v =>
        cases d with
        | sc u =>
          simp only at h2
          have hv := scOf hev ha
          have hu := scOf hev hb
          have hg : (eqGuard op t x y v u).run P w = .ok () w := by
            unfold eqGuard
            cases op <;> simp
            all_goals cases v <;> simp [isSc] at hv <;> (try (cases u <;> simp [isSc] at hu)) <;> rfl
          have fin : ∀ r, out = outV r → isSc r = true → (binOp op t v u).run P w = .ok r w → Runs P G ρ o ν S B h w out := by
            rintro r rfl hr' hrun
            refine Runs.outV hr ?_ hr'
            unfold execOp; rw [ho]
            simp [hv.1, hu.1, hg, hrun]
          have gen : (M.bind (bin op v u) fun r => M.ret (outV r)) (Out G) some = some out → Runs P G ρ o ν S B h w out := by
            intro hh
            obtain ⟨r, h3, h4, h5⟩ := bin_sound P t w (M.bind_spec hh)
            simp [M.ret] at h3
            exact fin r h3.symm h4 h5
          by_cases hbb : ∃ a' b', G.ty t = .bool ∧ v = .bool a' ∧ u = .bool b'
          · obtain ⟨a', b', hty, rfl, rfl⟩ := hbb
            have hub := ok.bool t hty
            simp only [binS, hty] at h2
            cases op <;> simp [M.fail] at h2
            · simp [M.ret] at h2
              exact fin _ h2.symm rfl (by simp only [binOp]; simp [eq_bool hub])
            · simp [M.ret] at h2
              exact fin _ h2.symm rfl (by simp only [binOp]; simp [eq_bool hub])
          · refine gen ?_
            unfold binS at h2
            generalize hty : G.ty t = y at h2
            cases y with
            | bool =>
              cases v <;> try exact h2
              cases u <;> try exact h2
              exact absurd ⟨_, _, hty, rfl, rfl⟩ hbb
            | _ => exact h2
        | _ => simp [M.fail] at h2
      | _ => cases d <;> simp [M.fail] at h2
    | agg ds => simp [M.fail] at h2
  | agg cs =>
    cases b with
    | one d => simp [M.fail] at h2
    | agg ds =>
      simp only at h2
      obtain ⟨hagg0, h3⟩ := M.bindneed h2
      obtain ⟨q, hq, h4⟩ := M.bindopt h3
      simp only [Bool.and_eq_true, eqOn] at hagg0
      obtain ⟨hagg, ⟨hty, hk1⟩, hk2⟩ := hagg0
      have hra := rpOf hev ha
      have hrb := rpOf hev hb
      generalize hu : ρ x = u at hra
      generalize hu' : ρ y = u' at hrb
      cases hra with
      | agg _ vs hvs =>
      cases hrb with
      | agg _ us hus =>
      have key : ∀ (cs ds : List (Cv G.T)) (vs us : List Value) (q : Bool), F2 (Rc G ν S w.heap) cs vs → F2 (Rc G ν S w.heap) ds us → eqCells cs ds = some q → eqVs vs us = some q := by
        intro cs
        induction cs with
        | nil =>
          intro ds vs us q h1 h2 h3
          cases ds with
          | nil => simp [eqCells] at h3; rw [h1.inv_nil, h2.inv_nil, h3]; rfl
          | cons d ds => simp [eqCells] at h3
        | cons c cs ih =>
          intro ds vs us q h1 h2 h3
          cases ds with
          | nil => cases c <;> simp [eqCells] at h3
          | cons d ds =>
            obtain ⟨v, vs', rfl, hv, hvs⟩ := h1.inv
            obtain ⟨u, us', rfl, hu, hus⟩ := h2.inv
            cases c with
            | sc v0 =>
              cases d with
              | sc u0 =>
                have ev : v = v0 := by have hv' : Rd G S w.heap (.sc v0) v := hv; cases hv'; rfl
                have eu : u = u0 := by have hu' : Rd G S w.heap (.sc u0) u := hu; cases hu'; rfl
                subst ev; subst eu
                simp only [eqCells] at h3
                split at h3
                · rename_i x' y' hx hy
                  have := ih ds vs' us' y' hvs hus hy
                  simp at h3
                  simp [eqVs, hx, this, h3]
                · simp at h3
              | _ => simp [eqCells] at h3
            | _ => simp [eqCells] at h3
      have hEq := key cs ds vs us q hvs hus hq
      have kin : ∀ (cs : List (Cv G.T)) (vs : List Value) (ks : List Nat), F2 (Rc G ν S w.heap) cs vs → eqNs (mapK kindC cs) ks = true → (∀ k ∈ ks, k ≠ 0) → mapK kindV vs = ks := by
        intro cs
        induction cs with
        | nil => intro vs ks h1 h2 _; rw [h1.inv_nil]; cases ks <;> simp [mapK, eqNs] at h2 ⊢
        | cons c cs ih =>
          intro vs ks h1 h2 h3
          obtain ⟨v, vs', rfl, hv, hvs⟩ := h1.inv
          cases ks with
          | nil => simp [mapK, eqNs] at h2
          | cons k ks =>
            simp only [mapK, eqNs, Bool.and_eq_true] at h2 ⊢
            have hk : kindC c = k := beq_true.1 h2.1
            have hne := h3 k (by simp)
            cases c with
            | sc v0 =>
              have ev : v = v0 := by have hv' : Rd G S w.heap (.sc v0) v := hv; cases hv'; rfl
              subst ev
              rw [ih vs' ks hvs h2.2 fun k' hk' => h3 k' (by simp [hk'])]
              have hk : kindV v = k := hk
              rw [hk]
            | _ => exact absurd hk.symm hne
      have hz : ∀ k ∈ zk G t, k ≠ 0 := by
        have all : ∀ (cs ds : List (Cv G.T)) (q : Bool) (ks : List Nat), eqCells cs ds = some q → eqNs (mapK kindC cs) ks = true → ∀ k ∈ ks, k ≠ 0 := by
          intro cs
          induction cs with
          | nil => intro ds q ks _ h2 k hk; cases ks <;> simp [mapK, eqNs] at h2 hk
          | cons c cs ih =>
            intro ds q ks h1 h2 k hk
            cases ks with
            | nil => simp at hk
            | cons k0 ks =>
              simp only [mapK, eqNs, Bool.and_eq_true] at h2
              cases ds with
              | nil => cases c <;> simp [eqCells] at h1
              | cons d ds =>
                cases c with
                | sc v0 =>
                  cases d with
                  | sc u0 =>
                    simp only [eqCells] at h1
                    split at h1
                    · rename_i x' y' hx hy
                      rcases List.mem_cons.1 hk with rfl | hk
                      · have h0 : kindV v0 = k := beq_true.1 h2.1
                        intro hk0
                        rw [hk0] at h0
                        cases v0 with
                        | float k' n => cases k' <;> simp [kindV] at h0
                        | int k' n => cases k' <;> simp [kindV] at h0
                        | bool b => simp [kindV] at h0
                        | string b => simp [kindV] at h0
                        | _ => simp [eqV] at hx
                      · exact ih ds y' ks hy h2.2 k hk
                    · simp at h1
                  | _ => simp [eqCells] at h1
                | _ => simp [eqCells] at h1
        exact all cs ds q _ hq hk1
      have hrun := eqok.eq t vs us q w hagg hty (kin cs vs _ hvs hk1 hz) (kin ds us _ hus hk2 hz) hEq
      have hg : (eqGuard op t x y (.agg vs.toArray) (.agg us.toArray)).run P w = .ok () w := by
        unfold eqGuard
        cases op <;> simp [eqok.guard t hagg]
      cases op with
      | eql =>
        simp [M.ret] at h4; subst h4
        refine Runs.outV hr (v := .bool q) ?_ rfl
        unfold execOp; rw [ho]
        simp [hu, hu', hg, binOp, hrun]
      | neq =>
        simp [M.ret] at h4; subst h4
        refine Runs.outV hr (v := .bool (!q)) ?_ rfl
        unfold execOp; rw [ho]
        simp [hu, hu', hg, binOp, hrun]
      | _ => simp [M.fail] at h4
end
end Go.Ab
