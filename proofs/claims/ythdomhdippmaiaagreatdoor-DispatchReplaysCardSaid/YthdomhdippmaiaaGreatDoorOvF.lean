/- Layer 24: the round of a tick by the program. -/
import Derived.Test.YthdomhdippmaiaaGreatDoorOvE
import Derived.Test.YthdomhdippmaiaaGreatDoorOvD
import Derived.Test.YthdomhdippmaiaaGreatDoorOvC
namespace Go.Ovl
open Go Go.Ab
set_option maxRecDepth 100000
theorem nxc' {l : List Entry} (hl : l.length ≤ 100000) : nkz' l = some (((), ()), (((ofC l (0, 0)).1, (ofC l (0, 0)).2, ()), ())) := by
  have e2 : ∀ (k i : Nat) (c : Int × Int), i + k = l.length → iter (fun x => nfq' x.1.2.2.1 x.1.2.2.2.1 x.1.2.2.2.2.1 x.2.1.1 x.2.1.2.1 x.2.2.1.1 x.2.2.1.2.1) (k + 1) (((), (), l, (l.length : Int), (i : Int), ()), (((0 : Int), (0 : Int), ()), (c.1, c.2, ()), ())) = some (((), (), ()), (((0 : Int), (0 : Int), ()), ((ofC (l.drop i) c).1, (ofC (l.drop i) c).2, ()), ())) := by
    intro k
    induction k with
    | zero =>
      intro i c hi
      obtain rfl : i = l.length := by omega
      refine nj' ?_
      show nfq' l (l.length : Int) (l.length : Int) 0 0 c.1 c.2 = _
      unfold nfq'
      rw [decide_eq_false (Int.lt_irrefl (l.length : Int)), List.drop_length]; rfl
    | succ k ih =>
      intro i c hi
      have hi' : i < l.length := by omega
      rw [n8' noE hi']
      refine (ny' (x' := (((), (), l, (l.length : Int), ((i + 1 : Nat) : Int), ()), (((0 : Int), (0 : Int), ()), ((nej' c (oneC (l.getD i noE).Floor (l.getD i noE).Dir)).1, (nej' c (oneC (l.getD i noE).Floor (l.getD i noE).Dir)).2, ()), ()))) ?_).trans (ih (i + 1) _ (by omega))
      show nfq' l (l.length : Int) (i : Int) 0 0 c.1 c.2 = _
      unfold nfq'
      rw [show Entry.mk 0 0 0 0 false = noE from rfl]
      have hu := nhe' c (oneC (l.getD i noE).Floor (l.getD i noE).Dir)
      simp only [decide_eq_true (show (i : Int) < (l.length : Int) by omega), nc' (show (0 : Int) ≤ (i : Int) by omega) (show (i : Int) < (l.length : Int) by omega), cond_true, Int.toNat_natCast, nlg', Option.bind_some, hu, wrap1 hi' (show l.length ≤ nbw' by unfold nbw'; omega)]
  have h := e2 l.length 0 (0, 0) (by omega)
  rw [List.drop_zero] at h
  have h' : nit' (((), (), l, (l.length : Int), (0 : Int), ()), (((0 : Int), (0 : Int), ()), ((0 : Int), (0 : Int), ()), ())) = _ := ns' h (by omega)
  unfold nkz'
  rw [h']; rfl
def regR (e : Entry) : Record := Record.mk 1 e.Floor e.Dir 0 0
def stepG (b : Bldg) (e : Entry) (X : Rnd) : Rnd := bif roomV b X.img then stepW (regR e) X else ⟨X.recs, X.img, X.xs, X.lan, nej' X.ref (oneC e.Floor e.Dir)⟩
def regL (b : Bldg) : List Entry → Rnd → Rnd
  | [], X => X
  | e :: t, X => regL b t (stepG b e X)
theorem n4v' (r : Record) (X : Rnd) : wrL [r] X = stepW r X := by
  rw [np5']
  unfold wrL
  rw [List.append_nil]
  rfl
theorem noa' {b : Bldg} {e : Entry} (h : nu' b e.Floor e.Dir = true) : nz' b (regR e) = true := by
  have hc : (b.code == 0) = true := by
    unfold nu' at h
    rw [Bool.and_eq_true] at h
    exact h.1
  unfold nz' regR
  rw [hc]
  simp only [beq_self_eq_true, cond_true, h, Bool.and_self]
theorem nvm' {b : Bldg} {X : Rnd} (h : X.ok b) {e : Entry} (he : nu' b e.Floor e.Dir = true) : (stepG b e X).ok b := by
  unfold stepG
  cases roomV b X.img with
  | true => exact np8' h (noa' he)
  | false => exact ⟨h.img, h.len⟩
theorem nxq' {b : Bldg} : ∀ {l : List Entry} {X : Rnd}, X.ok b → (∀ e ∈ l, nu' b e.Floor e.Dir = true) → (regL b l X).ok b
  | [], _, h, _ => h
  | e :: t, X, h, hv => by
    show (regL b t (stepG b e X)).ok b
    exact nxq' (nvm' h (hv e (List.mem_cons_self ..))) fun x hx => hv x (List.mem_cons_of_mem _ hx)
theorem nqw' (b : Bldg) (e : Entry) (X : Rnd) : (stepG b e X).recs.length ≤ X.recs.length + 1 := by
  unfold stepG
  cases roomV b X.img with
  | true => show (X.recs ++ [_]).length ≤ _; rw [List.length_append, List.length_singleton]; exact Nat.le_refl _
  | false => exact Nat.le_succ _
theorem nt5' (b : Bldg) : ∀ (l : List Entry) (X : Rnd), (regL b l X).recs.length ≤ X.recs.length + l.length
  | [], _ => Nat.le_refl _
  | e :: t, X => by
    have h1 := nt5' b t (stepG b e X)
    have h2 := nqw' b e X
    show (regL b t (stepG b e X)).recs.length ≤ _
    rw [List.length_cons]
    omega
theorem ntr' (c : Int × Int) : (listC c).length ≤ 64 := by
  have h : ∀ k i : Nat, ((List.range' i k).flatMap (nis' c)).length ≤ 2 * k := by
    intro k
    induction k with
    | zero => intro i; exact Nat.le_refl _
    | succ k ih =>
      intro i
      rw [List.range'_succ, List.flatMap_cons, List.length_append]
      have := ih (i + 1)
      have := nyn' c i
      omega
  exact h 32 0
theorem nzx' {c : Int × Int} {e : Entry} (h : e ∈ listC c) : (0 ≤ e.Floor ∧ e.Floor < 32) ∧ (e.Dir = 1 ∨ e.Dir = 2) ∧ bitC c e.Floor.toNat e.Dir = true := by
  obtain ⟨f, h1, h2, h3, h4⟩ := mem_range.1 (List.mem_map.2 ⟨e, h, rfl⟩)
  simp only [ne3'] at h2 h3 h4
  refine ⟨by omega, h3, ?_⟩
  rw [h2, Int.toNat_natCast]; exact h4
def nrr' (b : Bldg) (m : Img) (press : Int × Int) : Int × Int := ncb' (bothC press (hallC b)) (ofC m.Entries (0, 0))
theorem nnk' {b : Bldg} (hb : b.small) (hcode : b.code = 0) {press old : Int × Int} {e : Entry} (h : e ∈ listC (ncb' (bothC press (hallC b)) old)) : nu' b e.Floor e.Dir = true := by
  obtain ⟨h1, h2, h3⟩ := nzx' h
  rw [nyz' _ _ (by omega), noc', Bool.and_eq_true, Bool.and_eq_true, n21' hb hcode (by omega) h2, Int.toNat_of_nonneg h1.1] at h3
  exact h3.1.2
section
variable {b : Bldg} (hb : b.small) (hcode : b.code = 0)
include hb hcode
theorem nt7' {es : List Entry} (hl : es.length ≤ 1000) (hv : ∀ e ∈ es, nu' b e.Floor e.Dir = true) : ∀ (k i : Nat) (Y : Rnd), i + k = es.length → Y.ok b → Y.recs.length ≤ 1000 + i → iter (fun x => n7' x.1.2.1 x.1.2.2.1 x.1.2.2.2.1 x.2.1.1 x.2.1.2.1 x.2.1.2.2.1 x.2.1.2.2.2.1 x.2.1.2.2.2.2.1 x.2.1.2.2.2.2.2.1 x.2.1.2.2.2.2.2.2.1 x.2.1.2.2.2.2.2.2.2.1 x.2.1.2.2.2.2.2.2.2.2.1 x.2.1.2.2.2.2.2.2.2.2.2.1 x.2.1.2.2.2.2.2.2.2.2.2.2.1 x.2.1.2.2.2.2.2.2.2.2.2.2.2.1 x.2.1.2.2.2.2.2.2.2.2.2.2.2.2.1 x.2.1.2.2.2.2.2.2.2.2.2.2.2.2.2.1 x.2.1.2.2.2.2.2.2.2.2.2.2.2.2.2.2.1 x.2.1.2.2.2.2.2.2.2.2.2.2.2.2.2.2.2.1 x.2.1.2.2.2.2.2.2.2.2.2.2.2.2.2.2.2.2.1 x.2.1.2.2.2.2.2.2.2.2.2.2.2.2.2.2.2.2.2.1 x.2.1.2.2.2.2.2.2.2.2.2.2.2.2.2.2.2.2.2.2.1 x.2.1.2.2.2.2.2.2.2.2.2.2.2.2.2.2.2.2.2.2.2.1) (k + 1) (((), es, (es.length : Int), (i : Int), ()), (Y.tupB b, ())) = some ((), ((regL b (es.drop i) Y).tupB b, ())) := by
  intro k
  induction k with
  | zero =>
    intro i Y hi _ _
    obtain rfl : i = es.length := by omega
    refine nj' ?_
    show n7' es (es.length : Int) (es.length : Int) Y.recs Y.img.Phases Y.img.Flags Y.img.Leaving Y.img.Entries Y.xs Y.lan.lit Y.lan.gong Y.lan.cl.1 Y.lan.cl.2 Y.ref.1 Y.ref.2 b.Floors b.Debounce b.Room b.Park b.Empty b.Full b.Over b.Cars = _
    unfold n7'
    rw [decide_eq_false (Int.lt_irrefl (es.length : Int)), List.drop_length]
    rfl
  | succ k ih =>
    intro i Y hi hY hr
    have hi' : i < es.length := by omega
    have hv' := hv _ (nd2' noE hi')
    have hcc := nf2' hcode
    have he := ncx' hb hY.img
    have hlp := hY.img.lp
    rw [n8' noE hi']
    refine (ny' (x' := (((), es, (es.length : Int), ((i + 1 : Nat) : Int), ()), ((stepG b (es.getD i noE) Y).tupB b, ()))) ?_).trans (ih (i + 1) _ (by omega) (nvm' hY hv') (by have := nqw' b (es.getD i noE) Y; omega))
    show n7' es (es.length : Int) (i : Int) Y.recs Y.img.Phases Y.img.Flags Y.img.Leaving Y.img.Entries Y.xs Y.lan.lit Y.lan.gong Y.lan.cl.1 Y.lan.cl.2 Y.ref.1 Y.ref.2 b.Floors b.Debounce b.Room b.Park b.Empty b.Full b.Over b.Cars = _
    unfold n7' stepG
    rw [show Entry.mk 0 0 0 0 false = noE from rfl, nwv' hb Y.img (by omega) (by omega) (by omega)]
    simp only [decide_eq_true (show (i : Int) < (es.length : Int) by omega), nc' (show (0 : Int) ≤ (i : Int) by omega) (show (i : Int) < (es.length : Int) by omega), cond_true, Int.toNat_natCast, Option.bind_some, wrap1 hi' (show es.length ≤ nbw' by unfold nbw'; omega)]
    cases roomV b Y.img with
    | true =>
      have hw := nqh' hb hcode hY (l := [regR (es.getD i noE)]) (by show 1 ≤ 100000; omega) (by
        intro r hr
        rw [List.mem_singleton.1 hr]
        exact noa' hv') (by omega)
      rw [n4v'] at hw
      unfold regR at hw
      simp only [cond_true, hw, Option.bind_some]
      rfl
    | false =>
      have hu := nhe' Y.ref (oneC (es.getD i noE).Floor (es.getD i noE).Dir)
      simp only [cond_false, nlg', Option.bind_some, hu]
      rfl
theorem nw0' (press old : Int × Int) {X : Rnd} (hX : X.ok b) (hr : X.recs.length ≤ 1000) : nb4' press.1 press.2 old.1 old.2 X.recs X.img.Phases X.img.Flags X.img.Leaving X.img.Entries X.xs X.lan.lit X.lan.gong X.lan.cl.1 X.lan.cl.2 X.ref.1 X.ref.2 b.Floors b.Debounce b.Room b.Park b.Empty b.Full b.Over b.Cars = some ((), ((regL b (listC (ncb' (bothC press (hallC b)) old)) X).tupB b, ())) := by
  have hl := ntr' (ncb' (bothC press (hallC b)) old)
  have h := nt7' hb hcode (es := listC (ncb' (bothC press (hallC b)) old)) (by omega) (fun e he => nnk' hb hcode he) _ 0 X (Nat.zero_add _) hX (by omega)
  rw [List.drop_zero] at h
  have h' : nbz' (((), listC (ncb' (bothC press (hallC b)) old), ((listC (ncb' (bothC press (hallC b)) old)).length : Int), (0 : Int), ()), (X.tupB b, ())) = _ := ns' h (by omega)
  unfold nb4'
  rw [nly' hb hcode]
  simp only [Option.bind_some]
  rw [nke' press (hallC b)]
  simp only [Option.bind_some]
  rw [ni9' (bothC press (hallC b)) old]
  simp only [Option.bind_some]
  rw [nuk']
  simp only [Option.bind_some]
  unfold Rnd.tupB at h'
  rw [h']
  rfl
end
theorem nt8' (n : Int) : ndy' n = some ((!inR 0 1000000 n, ()), ()) := by
  unfold ndy' inR
  by_cases g : n < 0
  · rw [decide_eq_true g, decide_eq_false (show ¬ 0 ≤ n by omega)]; rfl
  · rw [decide_eq_false g, decide_eq_true (show 0 ≤ n by omega)]
    by_cases g' : 1000000 < n
    · rw [decide_eq_true g', decide_eq_false (show ¬ n ≤ 1000000 by omega)]; rfl
    · rw [decide_eq_false g', decide_eq_true (show n ≤ 1000000 by omega)]; rfl
theorem nwp' {xs : List Int} (hl : xs.length ≤ maxLen) : n2' xs = some ((!expOK xs, ()), ()) := by
  have hm : maxLen ≤ 9223372036854775807 := by decide
  have key : ∀ (k i : Nat), i + k = xs.length → ∃ y, iter (fun x => np' x.1.1 x.1.2.2.1 x.1.2.2.2.1) (k + 1) ((xs, (), (xs.length : Int), (i : Int), ()), ()) = some y ∧ (match y with | .inl _ => (xs.drop i).all (inR 0 1000000) = true | .inr z => 0 ≤ z.1.1 ∧ (xs.drop i).all (inR 0 1000000) = false) := by
    intro k
    induction k with
    | zero =>
      intro i hi
      refine ⟨.inl ((), ()), nj' ?_, ?_⟩
      · show np' xs (xs.length : Int) (i : Int) = _
        unfold np'
        rw [show decide ((i : Int) < (xs.length : Int)) = false by simp; omega]; rfl
      · rw [show i = xs.length by omega, List.drop_length]; rfl
    | succ k ih =>
      intro i hi
      have hi' : i < xs.length := by omega
      have hs : np' xs (xs.length : Int) (i : Int) = some (bif inR 0 1000000 (xs.getD i 0) then .inl ((xs, (), (xs.length : Int), ((i + 1 : Nat) : Int), ()), ()) else .inr (.inr (((i : Int), ()), ()))) := by
        unfold np'
        have w : IntKind.i64.wrap ((i : Int) + 1) = ((i + 1 : Nat) : Int) := by rw [nb' (by omega) (by omega)]; omega
        rw [show decide ((i : Int) < (xs.length : Int)) = true by simp; omega, nc' (by omega) (by omega), nt8', w]
        simp only [cond_true, Int.toNat_natCast, Option.bind_some]
        cases inR 0 1000000 (xs.getD i 0) <;> rfl
      rw [n8' (0 : Int) hi', List.all_cons]
      cases hq : inR 0 1000000 (xs.getD i 0) with
      | true =>
        rw [hq] at hs
        obtain ⟨y, h1, h2⟩ := ih (i + 1) (by omega)
        exact ⟨y, (ny' hs).trans h1, by rw [Bool.true_and]; exact h2⟩
      | false =>
        rw [hq] at hs
        exact ⟨_, nj' hs, by show (0 : Int) ≤ (i : Int) ∧ _; exact ⟨by omega, rfl⟩⟩
  obtain ⟨y, h1, h2⟩ := key xs.length 0 (by omega)
  have h1' : n5' ((xs, (), (xs.length : Int), (0 : Int), ()), ()) = some y := ns' h1 (by omega)
  rw [List.drop_zero] at h2
  unfold n2' nbq' expOK
  rw [h1']
  cases y with
  | inl z => simp only at h2; rw [h2]; rfl
  | inr z =>
    simp only at h2
    rw [h2.2]
    simp only [Option.bind_some]
    rw [decide_eq_true h2.1]; rfl
theorem nnc' (m : Img) {xs : List Int} (hl : xs.length ≤ maxLen) : nel' m.Phases m.Flags m.Leaving m.Entries xs = some (((((xs.length : Int) == (m.Entries.length : Int)) && expOK xs), ()), ()) := by
  unfold nel'
  rw [nwp' hl]
  cases ((xs.length : Int) == (m.Entries.length : Int)) with
  | false => rfl
  | true => simp only [cond_true, Option.bind_some, Bool.true_and, Bool.not_not]
theorem nf8' {α : Type} (l : List α) (h : l.length ≤ 100000) : cloF l = some ((l, ()), ()) := by
  unfold cloF
  rw [nbp' (show l.length ≤ 2147483648 by omega)]; rfl
def darkV (n : Nat) : Lan := ⟨List.replicate n noP, List.replicate n false, (0, 0)⟩
def tickX (b : Bldg) (m : Img) (xs : List Int) (vs : List View) (ps : List Calls) (press : Int × Int) (good : Bool) : Rnd :=
  bif good then regL b (listC (nrr' b m press)) (wrL (servL b vs m.Entries) ⟨[], m, xs, neh' b vs ps, (0, 0)⟩) else ⟨[], m, xs, darkV vs.length, (0, 0)⟩
noncomputable def tickP (b : Bldg) (m : Img) (xs : List Int) (vs : List View) (ps : List Calls) (press : Int × Int) (good : Bool) : List Record × List Int × Int × Unit := planV b (tickX b m xs vs ps press good).img (tickX b m xs vs ps press good).xs vs
noncomputable def tickV (b : Bldg) (m : Img) (xs : List Int) (vs : List View) (ps : List Calls) (press : Int × Int) (good : Bool) : Rnd := { wrL (tickP b m xs vs ps press good).1 (tickX b m xs vs ps press good) with xs := (tickP b m xs vs ps press good).2.1 }
theorem nmf' {b : Bldg} (hcode : b.code = 0) (vs : List View) : ∀ {l : List Entry}, (∀ e ∈ l, nu' b e.Floor e.Dir = true) → ∀ r ∈ servL b vs l, nz' b r = true ∧ r.Kind = 2 := fun h r hr => by
  obtain ⟨e, he, hr⟩ := List.mem_flatMap.1 hr
  have hc := h e he
  cases hs : servB b vs e.Floor e.Dir with
  | false => rw [hs] at hr; cases hr
  | true =>
    rw [hs] at hr
    rw [List.mem_singleton.1 hr]
    refine ⟨?_, rfl⟩
    unfold nz'
    rw [hcode]
    simp only [show ((2 : Int) == 1) = false from rfl, cond_false, beq_self_eq_true, cond_true, hc, Bool.and_self]
theorem npn' {b : Bldg} (hcode : b.code = 0) {vs : List View} {m : Img} (hm : ImgOK b m) (xs : List Int) : ∀ r ∈ (planV b m xs vs).1, nz' b r = true := by
  have hcc := nf2' hcode
  unfold planV
  rw [Img.ok_iff.2 hm]
  cases hq : ((xs.length : Int) == (m.Entries.length : Int)) with
  | false => exact fun r hr => by cases hr
  | true =>
    cases hv : ((vs.length : Int) == (b.Cars.length : Int)) with
    | false => exact fun r hr => by cases hr
    | true =>
      cases expOK xs with
      | false => exact fun r hr => by cases hr
      | true =>
        have h1 : (xs.length : Int) = (m.Entries.length : Int) := by simpa using hq
        have h2 : (vs.length : Int) = (b.Cars.length : Int) := by simpa using hv
        exact (nnq' (b := b) (by omega) h2 m.Entries xs [] m (by omega) hm rfl).2.1
section
variable {b : Bldg} (hb : b.small) (hcode : b.code = 0) {m : Img} (hm : ImgOK b m) {xs : List Int} (hx : xs.length = m.Entries.length) {vs : List View} (ps : List Calls) (press : Int × Int) (good : Bool)
include hb hcode hm hx
theorem nnb' : (tickX b m xs vs ps press good).ok b ∧ (tickX b m xs vs ps press good).recs.length ≤ 100 := by
  have he := ncx' hb hm
  have hX : ∀ L : Lan, Rnd.ok b ⟨[], m, xs, L, (0, 0)⟩ := fun L => ⟨hm, hx⟩
  unfold tickX
  cases good with
  | false => exact ⟨hX _, Nat.zero_le _⟩
  | true =>
    have hv := nmf' hcode vs (l := m.Entries) fun e he => (nea'.1 (hm.en e he)).1
    refine ⟨nxq' (nvv' (hX _) fun r hr => (hv r hr).1) fun e he => nnk' hb hcode he, ?_⟩
    have h1 := nt5' b (listC (nrr' b m press)) (wrL (servL b vs m.Entries) ⟨[], m, xs, neh' b vs ps, (0, 0)⟩)
    have h2 := ntr' (nrr' b m press)
    have h3 := noe' b vs m.Entries
    have h4 : (wrL (servL b vs m.Entries) ⟨[], m, xs, neh' b vs ps, (0, 0)⟩).recs.length = (servL b vs m.Entries).length := rfl
    show (regL b (listC (nrr' b m press)) (wrL (servL b vs m.Entries) ⟨[], m, xs, neh' b vs ps, (0, 0)⟩)).recs.length ≤ 100
    omega
theorem nqb' (hexp : expOK xs = true) (hv : okViews vs) (hvl : vs.length = b.Cars.length) (hp : ps.length = b.Cars.length) : nb0' b.Floors b.Debounce b.Room b.Park b.Empty b.Full b.Over b.Cars m.Phases m.Flags m.Leaving m.Entries xs vs ps press.1 press.2 good = some (((), 0, ()), ((tickV b m xs vs ps press good).tup, ())) := by
  have hcc := nf2' hcode
  have he := ncx' hb hm
  have hlp := hm.lp
  have hlf := hm.lf
  have hll := hm.ll
  have hmx : 100000 ≤ maxLen := by decide
  have hX : ∀ L : Lan, Rnd.ok b ⟨[], m, xs, L, (0, 0)⟩ := fun L => ⟨hm, hx⟩
  obtain ⟨hok, hrl⟩ := nnb' hb hcode hm hx (vs := vs) ps press good
  have hlight := npz' hb hcode vs ps (by omega)
  unfold nrj' at hlight
  rw [show ((vs.length : Int) == (b.Cars.length : Int)) = true by rw [hvl]; exact beq_self_eq_true _, show ((ps.length : Int) == (b.Cars.length : Int)) = true by rw [hp]; exact beq_self_eq_true _] at hlight
  simp only [Bool.and_self, cond_true] at hlight
  have hXl := ncx' hb hok.img
  have hXp := hok.img.lp
  have hXx := hok.len
  have hplan := nr7' hb hv (by omega) (tickX b m xs vs ps press good).img (by omega) (by omega) (tickX b m xs vs ps press good).xs (by omega)
  have hpl := (n2l' b (tickX b m xs vs ps press good).img (tickX b m xs vs ps press good).xs vs).1
  have hwr := nqh' hb hcode hok (l := (planV b (tickX b m xs vs ps press good).img (tickX b m xs vs ps press good).xs vs).1) (by omega) (npn' hcode hok.img _) (by omega)
  unfold nb0'
  rw [hlight]
  simp only [Option.bind_some, bne_self_eq_false, cond_false, Lan.tup]
  rw [nfx' hb m (by omega) (by omega), Img.ok_iff.2 hm]
  simp only [Option.bind_some, Bool.not_true, cond_false]
  rw [nnc' m (by omega), show ((xs.length : Int) == (m.Entries.length : Int)) = true by rw [hx]; exact beq_self_eq_true _, hexp]
  unfold nd5' nbn' n6' n3' niw'
  rw [nf8' m.Phases (by omega), nf8' m.Flags (by omega), nf8' m.Leaving (by omega), nf8' m.Entries (by omega), nf8' xs (by omega)]
  simp only [Option.bind_some, Bool.and_self, Bool.not_true, cond_false, decide_eq_true (show (0 : Int) ≤ (vs.length : Int) by omega), decide_eq_true (Int.le_refl (vs.length : Int)), decide_eq_true (show (vs.length : Int) ≤ 2147483648 by omega), cond_true, Int.toNat_natCast]
  cases good with
  | false =>
    simp only [cond_false, Option.bind_some]
    rw [show ner' b.Floors b.Debounce b.Room b.Park b.Empty b.Full b.Over b.Cars m.Phases m.Flags m.Leaving m.Entries xs vs = _ from hplan]
    simp only [Option.bind_some]
    rw [show nba' (planV b (tickX b m xs vs ps press false).img (tickX b m xs vs ps press false).xs vs).1 [] m.Phases m.Flags m.Leaving m.Entries xs (List.replicate vs.length (Calls.mk 0 0)) (List.replicate vs.length false) 0 0 0 0 b.Floors b.Debounce b.Room b.Park b.Empty b.Full b.Over b.Cars = _ from hwr]
    rfl
  | true =>
    have hsv := nmf' hcode vs (l := m.Entries) fun e he => (nea'.1 (hm.en e he)).1
    have hsl := noe' b vs m.Entries
    have hw1 := nqh' hb hcode (hX (neh' b vs ps)) (l := servL b vs m.Entries) (by omega) (fun r hr => (hsv r hr).1) (Nat.zero_le _)
    have hrg := nw0' hb hcode press (ofC m.Entries (0, 0)) (X := wrL (servL b vs m.Entries) ⟨[], m, xs, neh' b vs ps, (0, 0)⟩) (nvv' (hX _) fun r hr => (hsv r hr).1) (by show ([] ++ servL b vs m.Entries).length ≤ _; rw [List.nil_append]; omega)
    unfold nig'
    simp only [cond_true]
    rw [nqg' hb hcode hm (by omega) vs (by omega)]
    simp only [Option.bind_some]
    simp only at hw1
    rw [hw1]
    simp only [Option.bind_some, nxc' (show m.Entries.length ≤ 100000 by omega), Rnd.tupB]
    rw [hrg]
    simp only [Option.bind_some, Rnd.tupB]
    rw [show ner' b.Floors b.Debounce b.Room b.Park b.Empty b.Full b.Over b.Cars (regL b (listC (ncb' (bothC press (hallC b)) (ofC m.Entries (0, 0)))) (wrL (servL b vs m.Entries) ⟨[], m, xs, neh' b vs ps, (0, 0)⟩)).img.Phases (regL b (listC (ncb' (bothC press (hallC b)) (ofC m.Entries (0, 0)))) (wrL (servL b vs m.Entries) ⟨[], m, xs, neh' b vs ps, (0, 0)⟩)).img.Flags (regL b (listC (ncb' (bothC press (hallC b)) (ofC m.Entries (0, 0)))) (wrL (servL b vs m.Entries) ⟨[], m, xs, neh' b vs ps, (0, 0)⟩)).img.Leaving (regL b (listC (ncb' (bothC press (hallC b)) (ofC m.Entries (0, 0)))) (wrL (servL b vs m.Entries) ⟨[], m, xs, neh' b vs ps, (0, 0)⟩)).img.Entries (regL b (listC (ncb' (bothC press (hallC b)) (ofC m.Entries (0, 0)))) (wrL (servL b vs m.Entries) ⟨[], m, xs, neh' b vs ps, (0, 0)⟩)).xs vs = _ from hplan]
    simp only [Option.bind_some]
    refine Eq.trans (congrArg (fun o => Option.bind o _) (show _ = some ((), ((wrL (planV b (tickX b m xs vs ps press true).img (tickX b m xs vs ps press true).xs vs).1 (tickX b m xs vs ps press true)).tupB b, ())) from hwr)) ?_
    rfl
end
end Go.Ovl
namespace Go.Ovl
open Go Go.Ab
set_option maxRecDepth 100000
theorem u8r.bif {p : Bool} {a b : Int} (ha : u8r a) (hb : u8r b) : u8r (bif p then a else b) := by cases p <;> assumption
theorem nh7' (n : Int) : u32r (IntKind.u32.wrap n) := by
  unfold u32r
  simp only [IntKind.wrap, IntKind.signed, IntKind.bits]
  simp
  omega
theorem n3r' {l : List Int} (hl : ∀ e ∈ l, u8r e) (_hlen : l.length ≤ maxLen) (out : List View) {i : Nat} (hi : i < 100) (b : Bldg) :
    ∃ y : (List Int × Unit × List View × Int × Unit × Unit) × ((Int × Int × Int × Int × Nat × Nat × Nat × List Car × Unit) × (Int × Int × Int × Int × Unit) × Unit),
      ngb' ((l, (), out, (i : Int), (), (0 : Int), ()), (b.tup, ((0 : Int), (0 : Int), (0 : Int), (0 : Int), ()), ())) = some y ∧
      ∃ x0 x1 x2 x3 : Int, u8r x0 ∧ u8r x1 ∧ u8r x2 ∧ u8r x3 ∧ y = ((l, (), out, (i : Int), (), ()), (b.tup, (x0, x1, x2, x3, ()), ())) := by
  have hm : maxLen ≤ 9223372036854775807 := by decide
  refine nmt' (fun x => ∃ (k : Nat) (x0 x1 x2 x3 : Int), k ≤ 4 ∧ u8r x0 ∧ u8r x1 ∧ u8r x2 ∧ u8r x3 ∧ x = ((l, (), out, (i : Int), (), (k : Int), ()), (b.tup, (x0, x1, x2, x3, ()), ())))
    (fun y => ∃ x0 x1 x2 x3 : Int, u8r x0 ∧ u8r x1 ∧ u8r x2 ∧ u8r x3 ∧ y = ((l, (), out, (i : Int), (), ()), (b.tup, (x0, x1, x2, x3, ()), ())))
    (fun x => 4 - x.1.2.2.2.2.2.1.toNat) ?_ ⟨0, 0, 0, 0, 0, by omega, u8r0, u8r0, u8r0, u8r0, rfl⟩ (by show 4 - 0 < _; omega)
  rintro _ ⟨k, x0, x1, x2, x3, hk, h0, h1, h2, h3, rfl⟩
  show (∃ x', nht' l out i k b.Floors b.Debounce b.Room b.Park b.Empty b.Full b.Over b.Cars x0 x1 x2 x3 = _ ∧ _) ∨ ∃ y, nht' l out i k b.Floors b.Debounce b.Room b.Park b.Empty b.Full b.Over b.Cars x0 x1 x2 x3 = _ ∧ _
  unfold nht'
  by_cases g : (k : Int) < 4
  · rw [decide_eq_true g, cond_true]
    by_cases g' : (0 : Int) < (l.length : Int)
    · have w1 : IntKind.i64.wrap (4 * (i : Int)) = 4 * (i : Int) := nb' (by omega) (by omega)
      have w2 : IntKind.i64.wrap (4 * (i : Int) + k) = 4 * (i : Int) + k := nb' (by omega) (by omega)
      have w3 : IntKind.i64.wrap ((k : Int) + 1) = ((k + 1 : Nat) : Int) := by rw [nb' (by omega) (by omega)]; omega
      have hmod : Int.tmod (4 * (i : Int) + k) (l.length : Int) = (((4 * i + k) % l.length : Nat) : Int) := by rw [Int.tmod_eq_emod_of_nonneg (by omega)]; norm_cast
      have hlt : (4 * i + k) % l.length < l.length := Nat.mod_lt _ (by omega)
      have e := np3' (P := u8r) hl (d := (0 : Int)) hlt
      rw [decide_eq_true g']
      simp only [w1, w2, w3, hmod, bne_t (show ¬ (l.length : Int) = 0 by omega), cond_true, nc' (show (0 : Int) ≤ (((4 * i + k) % l.length : Nat) : Int) by omega) (show (((4 * i + k) % l.length : Nat) : Int) < (l.length : Int) by omega), nc' (show (0 : Int) ≤ (k : Int) by omega) (show (k : Int) < ((4 : Nat) : Int) from g), Int.toNat_natCast]
      exact .inl ⟨_, rfl, ⟨k + 1, _, _, _, _, by omega, u8r.bif e h0, u8r.bif e h1, u8r.bif e h2, u8r.bif e h3, rfl⟩, by simp only [Int.toNat_natCast]; omega⟩
    · rw [decide_eq_false g']
      exact .inr ⟨_, rfl, x0, x1, x2, x3, h0, h1, h2, h3, rfl⟩
  · rw [decide_eq_false g]
    exact .inr ⟨_, rfl, x0, x1, x2, x3, h0, h1, h2, h3, rfl⟩
structure Made (b : Bldg) (vs : List View) : Prop where
  len : vs.length = b.Cars.length
  ok : okViews vs
  lost : ∀ v ∈ vs, v.Lost = true → v.Ready = false
  flo : ∀ v ∈ vs, -1 ≤ v.Floor ∧ v.Floor < b.Floors
theorem nsn' {b : Bldg} (hb : b.small) (hc : b.Cars.length ≤ 8) {l : List Int} (hl : ∀ e ∈ l, u8r e) (hlen : l.length ≤ maxLen) :
    ∃ vs : List View, njg' b.Floors b.Debounce b.Room b.Park b.Empty b.Full b.Over b.Cars l = some ((vs, ()), ()) ∧ Made b vs := by
  have lo := hb.lo
  have hi := hb.hi
  have key : ∃ y : (List View × Unit) × Unit, nge' ((l, (), ([] : List View), (0 : Int), ()), (b.tup, ())) = some y ∧ ∃ vs, Made b vs ∧ y = ((vs, ()), ()) := by
    refine nmt' (fun x => ∃ (i : Nat) (out : List View), i ≤ b.Cars.length ∧ out.length = i ∧ okViews out ∧ (∀ v ∈ out, v.Lost = true → v.Ready = false) ∧ (∀ v ∈ out, -1 ≤ v.Floor ∧ v.Floor < b.Floors) ∧ x = ((l, (), out, (i : Int), ()), (b.tup, ())))
      (fun y => ∃ vs, Made b vs ∧ y = ((vs, ()), ())) (fun x => b.Cars.length - x.1.2.2.2.1.toNat) ?_ ⟨0, [], by omega, rfl, (fun v h => by cases h), (fun v h => by cases h), (fun v h => by cases h), rfl⟩ (by show b.Cars.length - 0 < _; omega)
    rintro _ ⟨i, out, hi1, hi2, ho, hlo, hfl, rfl⟩
    show (∃ x', nh0' l out i b.Floors b.Debounce b.Room b.Park b.Empty b.Full b.Over b.Cars = _ ∧ _) ∨ ∃ y, nh0' l out i b.Floors b.Debounce b.Room b.Park b.Empty b.Full b.Over b.Cars = _ ∧ _
    unfold nh0'
    by_cases g : (i : Int) < (b.Cars.length : Int)
    · obtain ⟨_, e1, x0, x1, x2, x3, h0, h1, h2, h3, rfl⟩ := n3r' hl hlen out (show i < 100 by omega) b
      have e1' : ngb' ((l, (), out, (i : Int), (), (0 : Int), ()), ((b.Floors, b.Debounce, b.Room, b.Park, b.Empty, b.Full, b.Over, b.Cars, ()), ((0 : Int), (0 : Int), (0 : Int), (0 : Int), ()), ())) = _ := e1
      have w3 : IntKind.i64.wrap ((i : Int) + 1) = ((i + 1 : Nat) : Int) := by rw [nb' (by omega) (by omega)]; omega
      have w4 : IntKind.i64.wrap (b.Floors + 1) = b.Floors + 1 := nb' (by omega) (by omega)
      have w5 : IntKind.i64.wrap x1 = x1 := nb' (by unfold u8r at h1; omega) (by unfold u8r at h1; omega)
      have m1 : 0 ≤ Int.tmod x1 (b.Floors + 1) ∧ Int.tmod x1 (b.Floors + 1) < b.Floors + 1 := by
        rw [Int.tmod_eq_emod_of_nonneg h1.1]
        exact ⟨Int.emod_nonneg _ (by omega), Int.emod_lt_of_pos _ (by omega)⟩
      have w6 : IntKind.i64.wrap (Int.tmod x1 (b.Floors + 1) - 1) = Int.tmod x1 (b.Floors + 1) - 1 := nb' (by omega) (by omega)
      have ap : ∀ v : View, Nat.ble (out.length + [v].length) 2147483648 = true := fun v => nbp' (by simp; omega)
      rw [decide_eq_true g, e1']
      simp only [cond_true, Option.bind_some, Bldg.tup, w3, w4, w5, w6, ap, bne_t (show ¬ b.Floors + 1 = 0 by omega)]
      have fin : ∀ v : View, v.ok → (v.Lost = true → v.Ready = false) → (-1 ≤ v.Floor ∧ v.Floor < b.Floors) →
          ∃ (j : Nat) (o : List View), j ≤ b.Cars.length ∧ o.length = j ∧ okViews o ∧ (∀ v ∈ o, v.Lost = true → v.Ready = false) ∧ (∀ v ∈ o, -1 ≤ v.Floor ∧ v.Floor < b.Floors) ∧ ((l, (), out ++ [v], ((i + 1 : Nat) : Int), ()), ((b.Floors, b.Debounce, b.Room, b.Park, b.Empty, b.Full, b.Over, b.Cars, ()), ())) = ((l, (), o, (j : Int), ()), ((b.Floors, b.Debounce, b.Room, b.Park, b.Empty, b.Full, b.Over, b.Cars, ()), ())) := fun v k1 k2 k3 => by
        refine ⟨i + 1, out ++ [v], by omega, by simp; omega, fun x hx => ?_, fun x hx => ?_, fun x hx => ?_, rfl⟩
        · rcases List.mem_append.1 hx with h | h
          · exact ho x h
          · rw [List.mem_singleton.1 h]; exact k1
        · rcases List.mem_append.1 hx with h | h
          · exact hlo x h
          · rw [List.mem_singleton.1 h]; exact k2
        · rcases List.mem_append.1 hx with h | h
          · exact hfl x h
          · rw [List.mem_singleton.1 h]; exact k3
      cases hz : (Int.tmod (IntKind.u8.wrap (Int.tdiv x0 16)) 4 == 0) with
      | true =>
        simp only [cond_true]
        exact .inl ⟨_, rfl, fin _ ⟨nh7' _, nh7' _, nh7' _⟩ (fun _ => rfl) ⟨by show -1 ≤ Int.tmod x1 (b.Floors + 1) - 1; omega, by show Int.tmod x1 (b.Floors + 1) - 1 < b.Floors; omega⟩, by simp only [Int.toNat_natCast]; omega⟩
      | false =>
        simp only [cond_false]
        exact .inl ⟨_, rfl, fin _ ⟨nh7' _, nh7' _, nh7' _⟩ (fun h => by cases h) ⟨by show -1 ≤ Int.tmod x1 (b.Floors + 1) - 1; omega, by show Int.tmod x1 (b.Floors + 1) - 1 < b.Floors; omega⟩, by simp only [Int.toNat_natCast]; omega⟩
    · rw [decide_eq_false g]
      exact .inr ⟨_, rfl, out, ⟨by omega, ho, hlo, hfl⟩, rfl⟩
  obtain ⟨_, h1, vs, h2, rfl⟩ := key
  refine ⟨vs, ?_, h2⟩
  unfold njg'
  have h1' : nge' ((l, (), ([] : List View), (0 : Int), ()), ((b.Floors, b.Debounce, b.Room, b.Park, b.Empty, b.Full, b.Over, b.Cars, ()), ())) = _ := h1
  rw [h1']
  rfl
end Go.Ovl
namespace Go.Ovl
open Go Go.Ab
set_option maxRecDepth 100000
theorem nqy' {b : Bldg} {vs : List View} {floor dir except : Int} : ∀ (m i : Nat) (best : Int), i + m = vs.length →
    (best = -1 ∧ (∀ j : Nat, j < i → (nd' vs j).Ready = true → (j : Int) = except) ∨ (0 ≤ best ∧ best < vs.length ∧ (nd' vs best).Ready = true ∧ best ≠ except)) →
    (bestF b vs floor dir except m i best = -1 ∧ (∀ j : Nat, j < vs.length → (nd' vs j).Ready = true → (j : Int) = except)) ∨ (0 ≤ bestF b vs floor dir except m i best ∧ bestF b vs floor dir except m i best < vs.length ∧ (nd' vs (bestF b vs floor dir except m i best)).Ready = true ∧ bestF b vs floor dir except m i best ≠ except)
  | 0, i, best, hi, h => by
    rcases h with ⟨h1, h2⟩ | h
    · exact .inl ⟨h1, fun j hj => h2 j (by omega)⟩
    · exact .inr h
  | m + 1, i, best, hi, h => by
    refine nqy' m (i + 1) _ (by omega) ?_
    unfold nhb'
    cases hr : (nd' vs (i : Int)).Ready with
    | false =>
      rcases h with ⟨h1, h2⟩ | h
      · refine .inl ⟨h1, fun j hj hj' => ?_⟩
        rcases Nat.lt_or_ge j i with hlt | hge
        · exact h2 j hlt hj'
        · have : j = i := by omega
          subst this; rw [hr] at hj'; cases hj'
      · exact .inr h
    | true =>
      rw [Bool.not_true, Bool.false_or]
      by_cases he : (i : Int) = except
      · rw [show ((i : Int) == except) = true by rw [he]; simp, cond_true]
        rcases h with ⟨h1, h2⟩ | h
        · refine .inl ⟨h1, fun j hj hj' => ?_⟩
          rcases Nat.lt_or_ge j i with hlt | hge
          · exact h2 j hlt hj'
          · have : j = i := by omega
            subst this; exact he
        · exact .inr h
      · rw [beq_f he, cond_false]
        cases hb : (best == -1 || betB (rankV b vs floor dir i) (rankV b vs floor dir best)) with
        | true => exact .inr ⟨by show (0 : Int) ≤ (i : Int); omega, by show (i : Int) < _; omega, hr, he⟩
        | false =>
          rcases h with ⟨h1, h2⟩ | h
          · rw [h1] at hb; cases hb
          · exact .inr h
theorem nv0' {b : Bldg} {vs : List View} (hcode : b.code = 0) (hlen : (vs.length : Int) = (b.Cars.length : Int)) (floor dir except : Int) :
    (nb3' b vs floor dir except = -1 ∧ (∀ j : Nat, j < vs.length → (nd' vs j).Ready = true → (j : Int) = except)) ∨ (0 ≤ nb3' b vs floor dir except ∧ nb3' b vs floor dir except < vs.length ∧ (nd' vs (nb3' b vs floor dir except)).Ready = true ∧ nb3' b vs floor dir except ≠ except) := by
  unfold nb3'
  have e1 : ((vs.length : Int) != (b.Cars.length : Int)) = false := by rw [hlen]; simp
  rw [hcode, e1]
  exact nqy' vs.length 0 (-1) (by omega) (.inl ⟨rfl, fun j hj => by omega⟩)
def nhn' (vs : List View) : Nat := vs.countP (·.Ready)
theorem nm4' : ∀ {vs : List View}, (∀ j : Nat, j < vs.length → (nd' vs j).Ready = false) → nhn' vs = 0
  | [], _ => rfl
  | v :: t, h => by
    have h0 : v.Ready = false := h 0 (by simp)
    have ht := nm4' (vs := t) fun j hj => h (j + 1) (by simp; omega)
    unfold nhn' at *
    rw [List.countP_cons_of_neg (by rw [h0]; simp)]; exact ht
theorem nts' : ∀ {vs : List View} (o e : Int), (∀ j : Nat, j < vs.length → (nd' vs j).Ready = true → o + j = e) → nhn' vs ≤ 1
  | [], _, _, _ => by simp [nhn']
  | v :: t, o, e, h => by
    cases hv : v.Ready with
    | true =>
      have h0 : o + ((0 : Nat) : Int) = e := h 0 (by simp) hv
      have ht := nm4' (vs := t) fun j hj => by
        cases hr : (nd' t j).Ready with
        | false => rfl
        | true => have := h (j + 1) (by simp; omega) hr; omega
      unfold nhn' at *
      rw [List.countP_cons_of_pos (by rw [hv])]; omega
    | false =>
      have ht := nts' (vs := t) (o + 1) e fun j hj hr => by have := h (j + 1) (by simp; omega) hr; omega
      unfold nhn' at *
      rw [List.countP_cons_of_neg (by rw [hv]; simp)]; exact ht
structure Plan22 (b : Bldg) (m : Img) (vs : List View) (xs : List Int) : Prop where
  small : b.small
  code : b.code = 0
  cars : 1 ≤ b.Cars.length ∧ b.Cars.length ≤ 3
  img : ImgOK b m
  ents : m.Entries.length ≤ 60
  made : Made b vs
  xlen : xs.length = m.Entries.length
  xval : ∀ x ∈ xs, 0 ≤ x ∧ x ≤ 1000000
section
variable {b : Bldg} {m : Img} {vs : List View} {xs : List Int} (h : Plan22 b m vs xs)
include h
theorem Plan22.vlen : (vs.length : Int) = (b.Cars.length : Int) := by have := h.made.len; omega
theorem Plan22.planV_eq : planV b m xs vs = (planR b vs m.Entries xs, planN b vs m.Entries xs, 0, ()) := by
  unfold planV
  have h1 : (xs.length : Int) == (m.Entries.length : Int) := by rw [h.xlen]; simp
  have h2 : (vs.length : Int) == (b.Cars.length : Int) := by rw [h.vlen]; simp
  have h3 : expOK xs = true := List.all_eq_true.2 fun x hx => n4'.2 (h.xval x hx)
  rw [Img.ok_iff.2 h.img, h1, h2, h3]; rfl
theorem Plan22.notLost {i : Int} (hi : 0 ≤ i ∧ i < vs.length) (hr : (nd' vs i).Ready = true) : (nd' vs i).Lost = false := by
  cases hl : (nd' vs i).Lost with
  | false => rfl
  | true =>
    have := h.made.lost (nd' vs i) (nd2' _ (show i.toNat < vs.length by omega)) hl
    rw [this] at hr; cases hr
theorem Plan22.car {e : Entry} (_he : -2 ≤ e.Car ∧ e.Car < (vs.length : Int)) (x : Int) :
    (0 ≤ (decV b vs e x).Car → (nd' vs (decV b vs e x).Car).Lost = false) ∧
    (0 ≤ (decV b vs e x).Car → (decV b vs e x).Car ≠ e.Car → (nd' vs (decV b vs e x).Car).Ready = true) ∧
    (e.Car = -2 → (decV b vs e x).Car = -2) ∧
    ((decV b vs e x).Car = -1 → (e.Car = -1 → nhn' vs = 0) ∧ (0 ≤ e.Car → nhn' vs ≤ 1)) := by
  have key : ∀ n except : Int, n = nb3' b vs e.Floor e.Dir except → (0 ≤ n → (nd' vs n).Lost = false) ∧ (0 ≤ n → (nd' vs n).Ready = true) ∧ (n = -1 → (∀ j : Nat, j < vs.length → (nd' vs j).Ready = true → (j : Int) = except)) ∧ n ≠ -2 := fun n except hn => by
    rcases nv0' h.code h.vlen e.Floor e.Dir except with ⟨h1, h2⟩ | ⟨h1, h2, h3, _⟩
    · rw [← hn] at h1
      exact ⟨fun _ => by omega, fun _ => by omega, fun _ => h2, by omega⟩
    · rw [← hn] at h1 h2 h3
      exact ⟨fun _ => h.notLost ⟨h1, h2⟩ h3, fun _ => h3, fun _ => by omega, by omega⟩
  unfold decV
  by_cases g1 : e.Car = -2
  · rw [show (e.Car == -2) = true by rw [g1]; rfl, cond_true]
    exact ⟨fun _ => by omega, fun _ hh => absurd rfl hh, fun _ => g1, fun _ => by omega⟩
  rw [beq_f g1, cond_false]
  by_cases g2 : e.Car = -1
  · rw [show (e.Car == -1) = true by rw [g2]; rfl, cond_true]
    obtain ⟨k1, k2, k3, k4⟩ := key _ (-1) rfl
    refine ⟨k1, fun hh _ => k2 hh, fun hh => absurd hh g1, fun hh => ⟨fun _ => nm4' fun j hj => ?_, fun _ => by omega⟩⟩
    cases hr : (nd' vs j).Ready with
    | false => rfl
    | true => have := k3 hh j hj hr; omega
  rw [beq_f g2, cond_false]
  cases hlost : (nd' vs e.Car).Lost with
  | true =>
    rw [cond_true]
    cases decide ((b.Cars.length : Int) < e.Moves) with
    | true => exact ⟨fun hh => absurd hh (by show ¬ (0 : Int) ≤ -2; omega), fun hh => absurd hh (by show ¬ (0 : Int) ≤ -2; omega), fun hh => absurd hh g1, fun hh => absurd hh (by show ¬ (-2 : Int) = -1; omega)⟩
    | false =>
      obtain ⟨k1, k2, k3, k4⟩ := key _ e.Car rfl
      exact ⟨k1, fun hh _ => k2 hh, fun hh => absurd hh g1, fun hh => ⟨fun hh' => absurd hh' g2, fun _ => nts' 0 e.Car fun j hj hr => by have := k3 hh j hj hr; omega⟩⟩
  | false =>
    rw [cond_false]
    have self : (0 ≤ e.Car → (nd' vs e.Car).Lost = false) ∧ (0 ≤ e.Car → e.Car ≠ e.Car → (nd' vs e.Car).Ready = true) ∧ (e.Car = -2 → e.Car = -2) ∧ (e.Car = -1 → (e.Car = -1 → nhn' vs = 0) ∧ (0 ≤ e.Car → nhn' vs ≤ 1)) :=
      ⟨fun _ => hlost, fun _ hh => absurd rfl hh, fun hh => hh, fun hh => absurd hh g2⟩
    cases (!e.Moved && decide (e.Moves ≤ (b.Cars.length : Int))) with
    | false => exact self
    | true =>
      rw [cond_true]
      cases ho : ne4' b vs e x != -1 with
      | false => exact self
      | true =>
        have hne : ne4' b vs e x ≠ -1 := by simpa using ho
        have heq : ne4' b vs e x = nb3' b vs e.Floor e.Dir e.Car := by
          unfold ne4' at hne ⊢
          cases hc : nb3' b vs e.Floor e.Dir e.Car == -1 with
          | true => rw [hc] at hne; exact absurd rfl hne
          | false =>
            rw [hc] at hne
            cases hbt : npf' b vs e x (nb3' b vs e.Floor e.Dir e.Car) with
            | true => rfl
            | false => rw [hbt] at hne; exact absurd rfl hne
        obtain ⟨k1, k2, k3, k4⟩ := key _ e.Car heq
        exact ⟨k1, fun hh _ => k2 hh, fun hh => absurd hh g1, fun hh => absurd hh hne⟩
end
end Go.Ovl
namespace Go.Ovl
open Go Go.Ab
set_option maxRecDepth 100000
theorem nvl' : niv' = some ((true, ()), ()) := by kernel_rfl
theorem n46' (F D : Int) : ∃ c : Int × Int, nh8' F D = some (((), ()), ((c.1, c.2, ()), ())) := ⟨oneC F D, nyt' F D⟩
def setV (vs : List View) (i : Nat) (c : Int × Int) : List View := vs.set i (View.mk (vs.getD i noV).Ready (vs.getD i noV).Serving (vs.getD i noV).Legacy (vs.getD i noV).Lost (vs.getD i noV).Floor (vs.getD i noV).Dir (vs.getD i noV).Load c.1 c.2 (vs.getD i noV).Stops_Car (vs.getD i noV).Stops_Hall_Up (vs.getD i noV).Stops_Hall_Down)
theorem nqk' (vs : List View) (i : Nat) (c : Int × Int) : (setV vs i c).length = vs.length := List.length_set ..
theorem n19' {b : Bldg} {vs : List View} (h : Made b vs) {i : Nat} (hi : i < vs.length) (c : Int × Int) : Made b (setV vs i c) := by
  have hm := nd2' noV hi
  refine ⟨by rw [nqk']; exact h.len, fun v hv => ?_, fun v hv hl => ?_, fun v hv => ?_⟩
  · rcases njc' hv with rfl | hv
    · obtain ⟨q1, q2, q3⟩ := h.ok _ hm
      exact ⟨q1, q2, q3⟩
    · exact h.ok v hv
  · rcases njc' hv with rfl | hv
    · exact h.lost (vs.getD i noV) hm hl
    · exact h.lost v hv hl
  · rcases njc' hv with rfl | hv
    · exact h.flo (vs.getD i noV) hm
    · exact h.flo v hv
theorem nsk' {b : Bldg} (hb : b.small) (hc : b.Cars.length ≤ 8) {l : List Int} (hl : ∀ e ∈ l, u8r e) (hlen : l.length ≤ maxLen) :
    ∃ vs : List View, ngn' b.Floors b.Debounce b.Room b.Park b.Empty b.Full b.Over b.Cars l = some ((vs, ()), ()) ∧ Made b vs := by
  have lo := hb.lo
  have hi8 := hb.hi
  obtain ⟨v0, hV, hM⟩ := nsn' hb hc hl hlen
  have h := nmt' (step := fun x => ncf' x.1.1 x.1.2.2.1 x.1.2.2.2.1 x.2.1.1 x.2.1.2.1 x.2.1.2.2.1 x.2.1.2.2.2.1 x.2.1.2.2.2.2.1 x.2.1.2.2.2.2.2.1 x.2.1.2.2.2.2.2.2.1 x.2.1.2.2.2.2.2.2.2.1) (fun x => ∃ (i : Nat) (v : List View), x = ((l, (), v, (i : Int), ()), (b.tup, ())) ∧ i ≤ v.length ∧ Made b v) (fun y => ∃ v : List View, y = ((v, ()), ()) ∧ Made b v) (fun x => (x.1.2.2.1.length : Int).toNat - x.1.2.2.2.1.toNat) (by
    rintro x ⟨i, v, rfl, hi, hm⟩
    have hvl := hm.len
    by_cases g : i < v.length
    · by_cases g2 : i < l.length
      · have he := hl _ (nd2' 0 g2)
        unfold u8r at he
        have hw := wrap1 g (show v.length ≤ nbw' by unfold nbw'; omega)
        cases hz : Int.tmod (l.getD i 0) 3 == 0 with
        | true =>
          obtain ⟨c, ho⟩ := n46' (Int.tmod (IntKind.i64.wrap (Int.tdiv (IntKind.i64.wrap (l.getD i 0)) 3)) b.Floors) (IntKind.i64.wrap (1 + IntKind.i64.wrap (Int.tmod (IntKind.u8.wrap (Int.tdiv (l.getD i 0) 64)) 2)))
          refine .inl ⟨((l, (), setV v i c, ((i + 1 : Nat) : Int), ()), (b.tup, ())), ?_, ⟨i + 1, _, rfl, by rw [nqk']; omega, n19' hm g c⟩, ?_⟩
          · show ncf' l v (i : Int) b.Floors b.Debounce b.Room b.Park b.Empty b.Full b.Over b.Cars = _
            unfold ncf'
            rw [show View.mk false false false false 0 0 0 0 0 0 0 0 = noV from rfl]
            simp only [decide_eq_true (show (i : Int) < (v.length : Int) by omega), decide_eq_true (show (i : Int) < (l.length : Int) by omega), nc' (show (0 : Int) ≤ (i : Int) by omega) (show (i : Int) < (l.length : Int) by omega), nc' (show (0 : Int) ≤ (i : Int) by omega) (show (i : Int) < (v.length : Int) by omega), cond_true, Int.toNat_natCast, hz, bne_t (show ¬ b.Floors = 0 by omega), ho, Option.bind_some, hw]
            rfl
          · show ((setV v i c).length : Int).toNat - ((i + 1 : Nat) : Int).toNat < (v.length : Int).toNat - (i : Int).toNat
            rw [nqk']; omega
        | false =>
          refine .inl ⟨((l, (), v, ((i + 1 : Nat) : Int), ()), (b.tup, ())), ?_, ⟨i + 1, v, rfl, by omega, hm⟩, ?_⟩
          · show ncf' l v (i : Int) b.Floors b.Debounce b.Room b.Park b.Empty b.Full b.Over b.Cars = _
            unfold ncf'
            simp only [decide_eq_true (show (i : Int) < (v.length : Int) by omega), decide_eq_true (show (i : Int) < (l.length : Int) by omega), nc' (show (0 : Int) ≤ (i : Int) by omega) (show (i : Int) < (l.length : Int) by omega), cond_true, cond_false, Int.toNat_natCast, hz, hw]
            rfl
          · show (v.length : Int).toNat - ((i + 1 : Nat) : Int).toNat < (v.length : Int).toNat - (i : Int).toNat
            omega
      · refine .inr ⟨_, ?_, v, rfl, hm⟩
        show ncf' l v (i : Int) b.Floors b.Debounce b.Room b.Park b.Empty b.Full b.Over b.Cars = _
        unfold ncf'
        simp only [decide_eq_true (show (i : Int) < (v.length : Int) by omega), decide_eq_false (show ¬ (i : Int) < (l.length : Int) by omega), cond_true, cond_false]
    · refine .inr ⟨_, ?_, v, rfl, hm⟩
      show ncf' l v (i : Int) b.Floors b.Debounce b.Room b.Park b.Empty b.Full b.Over b.Cars = _
      unfold ncf'
      simp only [decide_eq_false (show ¬ (i : Int) < (v.length : Int) by omega), cond_false]) (x := ((l, (), v0, (0 : Int), ()), (b.tup, ()))) ⟨0, v0, rfl, by omega, hM⟩ (by
      show (v0.length : Int).toNat - (0 : Int).toNat < _
      have := hM.len
      omega)
  obtain ⟨y, h1, v, rfl, hm⟩ := h
  refine ⟨v, ?_, hm⟩
  unfold ngn'
  rw [hV]
  simp only [Option.bind_some]
  rw [show nhv' ((l, (), v0, (0 : Int), ()), ((b.Floors, b.Debounce, b.Room, b.Park, b.Empty, b.Full, b.Over, b.Cars, ()), ())) = _ from h1]
  rfl
theorem nqe' (m : Img) (hml : m.Entries.length ≤ 1000) {l : List Int} (hl : ∀ e ∈ l, u8r e) :
    ∃ xs : List Int, nen' m.Phases m.Flags m.Leaving m.Entries l = some ((xs, ()), ()) ∧ xs.length = m.Entries.length ∧ ∀ x ∈ xs, 0 ≤ x ∧ x ≤ 4 := by
  have h := nmt' (step := fun x => nck' x.1.1 x.1.2.1 x.1.2.2.1) (fun x => ∃ (i : Nat) (v : List Int), x = ((l, v, (i : Int), ()), ()) ∧ i ≤ v.length ∧ v.length = m.Entries.length ∧ ∀ x ∈ v, 0 ≤ x ∧ x ≤ 4) (fun y => ∃ v : List Int, y = ((v, ()), ()) ∧ v.length = m.Entries.length ∧ ∀ x ∈ v, 0 ≤ x ∧ x ≤ 4) (fun x => (x.1.2.1.length : Int).toNat - x.1.2.2.1.toNat) (by
    rintro x ⟨i, v, rfl, hi, hvl, hm⟩
    by_cases g : i < v.length
    · by_cases g2 : i < l.length
      · have he := hl _ (nd2' 0 g2)
        unfold u8r at he
        have hw := wrap1 g (show v.length ≤ nbw' by unfold nbw'; omega)
        have h5 : 0 ≤ Int.tmod (l.getD i 0) 5 ∧ Int.tmod (l.getD i 0) 5 ≤ 4 := by
          have h1 := Int.tmod_nonneg 5 he.1
          have h2 := Int.tmod_lt_of_pos (l.getD i 0) (show (0 : Int) < 5 by omega)
          omega
        refine .inl ⟨((l, v.set i (Int.tmod (l.getD i 0) 5), ((i + 1 : Nat) : Int), ()), ()), ?_, ⟨i + 1, _, rfl, by rw [List.length_set]; omega, by rw [List.length_set]; exact hvl, fun x hx => ?_⟩, ?_⟩
        · show nck' l v (i : Int) = _
          unfold nck'
          simp only [decide_eq_true (show (i : Int) < (v.length : Int) by omega), decide_eq_true (show (i : Int) < (l.length : Int) by omega), nc' (show (0 : Int) ≤ (i : Int) by omega) (show (i : Int) < (l.length : Int) by omega), nc' (show (0 : Int) ≤ (i : Int) by omega) (show (i : Int) < (v.length : Int) by omega), cond_true, Int.toNat_natCast, hw, nb' (n := Int.tmod (l.getD i 0) 5) (by omega) (by omega)]
        · rcases njc' hx with rfl | hx
          · exact h5
          · exact hm x hx
        · show ((v.set i _).length : Int).toNat - ((i + 1 : Nat) : Int).toNat < (v.length : Int).toNat - (i : Int).toNat
          rw [List.length_set]; omega
      · refine .inr ⟨_, ?_, v, rfl, hvl, hm⟩
        show nck' l v (i : Int) = _
        unfold nck'
        simp only [decide_eq_true (show (i : Int) < (v.length : Int) by omega), decide_eq_false (show ¬ (i : Int) < (l.length : Int) by omega), cond_true, cond_false]
    · refine .inr ⟨_, ?_, v, rfl, hvl, hm⟩
      show nck' l v (i : Int) = _
      unfold nck'
      simp only [decide_eq_false (show ¬ (i : Int) < (v.length : Int) by omega), cond_false]) (x := ((l, List.replicate m.Entries.length 0, (0 : Int), ()), ())) ⟨0, _, rfl, Nat.zero_le _, List.length_replicate, fun x hx => by rw [List.eq_of_mem_replicate hx]; omega⟩ (by
      show ((List.replicate m.Entries.length (0 : Int)).length : Int).toNat - (0 : Int).toNat < _
      rw [List.length_replicate]; omega)
  obtain ⟨y, h1, v, rfl, hvl, hm⟩ := h
  refine ⟨v, ?_, hvl, hm⟩
  unfold nen'
  simp only [decide_eq_true (show (0 : Int) ≤ (m.Entries.length : Int) by omega), decide_eq_true (Int.le_refl (m.Entries.length : Int)), decide_eq_true (show (m.Entries.length : Int) ≤ 2147483648 by omega), Int.toNat_natCast, Bool.and_self, cond_true]
  rw [show ng0' ((l, List.replicate m.Entries.length (0 : Int), (0 : Int), ()), ()) = _ from h1]
  rfl
theorem n52' {n0 n1 : Int} (h0 : 0 ≤ n0 ∧ n0 < 256) (h1 : 0 ≤ n1 ∧ n1 < 256) {l k : List Int} (h_l : l.length ≤ maxLen ∧ ∀ e ∈ l, (0 ≤ e ∧ e < 256)) (h_k : k.length ≤ maxLen ∧ ∀ e ∈ k, (0 ≤ e ∧ e < 256)) :
    ∃ (b : Bldg) (m : Img) (vs : List View) (xs : List Int), nct' n0 n1 = some (((), ()), (b.tup, ())) ∧ ngp' b.Floors b.Debounce b.Room b.Park b.Empty b.Full b.Over b.Cars l = some (((), ()), (m.tup, ())) ∧ ngn' b.Floors b.Debounce b.Room b.Park b.Empty b.Full b.Over b.Cars k = some ((vs, ()), ()) ∧ nen' m.Phases m.Flags m.Leaving m.Entries k = some ((xs, ()), ()) ∧ Plan22 b m vs xs := by
  obtain ⟨fl, ca, f1, f2, c1, c2, hB⟩ := npg' h0 (room := n1) (by omega)
  have hs : (bld10 fl ca n1).small := ⟨by show (2 : Int) ≤ (fl : Int); omega, by show (fl : Int) ≤ 8; omega⟩
  have hc : (bld10 fl ca n1).Cars.length = ca := by simp [bld10, nbl']
  have hcode : (bld10 fl ca n1).code = 0 := ny4' f1 f2 c1 c2 (by omega)
  obtain ⟨m, hI, hm, hml⟩ := nr8' hs hcode (by omega) h_l.2
  obtain ⟨vs, hV, hM⟩ := nsk' hs (by omega) h_k.2 h_k.1
  have hme := ncx' hs hm
  obtain ⟨xs, hX, hxl, hxs⟩ := nqe' m (by omega) h_k.2
  refine ⟨bld10 fl ca n1, m, vs, xs, hB, hI, hV, hX, ⟨hs, hcode, by omega, hm, by omega, hM, hxl, fun x hx => ?_⟩⟩
  have := hxs x hx
  omega
theorem Plan22.exp {b : Bldg} {m : Img} {vs : List View} {xs : List Int} (h : Plan22 b m vs xs) : expOK xs = true := List.all_eq_true.2 fun x hx => n4'.2 (h.xval x hx)
theorem Plan22.tick {b : Bldg} {m : Img} {vs : List View} {xs : List Int} (h : Plan22 b m vs xs) {ps : List Calls} (hp : ps.length = b.Cars.length) (press : Int × Int) (good : Bool) : nb0' b.Floors b.Debounce b.Room b.Park b.Empty b.Full b.Over b.Cars m.Phases m.Flags m.Leaving m.Entries xs vs ps press.1 press.2 good = some (((), 0, ()), ((tickV b m xs vs ps press good).tup, ())) :=
  nqb' h.small h.code h.img h.xlen ps press good h.exp h.made.ok h.made.len hp
end Go.Ovl
namespace Go.Ovl
open Go Go.Ab
set_option maxRecDepth 100000
def nbr' (b : Bldg) : Img → List Record → Img × Int
  | m, [] => (m, 0)
  | m, r :: t => bif nz' b r then nbr' b (nbj' m r) t else (Img.none, 1)
theorem nns' {b : Bldg} : ∀ {l : List Record} {m : Img}, (∀ r ∈ l, nz' b r = true) → nbr' b m l = (nbv' m l, 0)
  | [], _, _ => rfl
  | r :: t, m, h => by
    simp only [nbr']
    rw [h r (List.mem_cons_self ..), cond_true]
    exact nns' fun x hx => h x (List.mem_cons_of_mem _ hx)
theorem njj' {b : Bldg} : ∀ {l : List Record} {m : Img}, (nbr' b m l).2 ≠ 0 → nbr' b m l = (Img.none, 1)
  | [], _, h => absurd rfl h
  | r :: t, m, h => by
    simp only [nbr'] at h ⊢
    cases hv : nz' b r with
    | true => rw [hv] at h; exact njj' h
    | false => rfl
theorem nnr' {b : Bldg} : ∀ {l : List Record} {m : Img}, ImgOK b m → (nbr' b m l).2 = 0 → ImgOK b (nbr' b m l).1
  | [], _, hm, _ => hm
  | r :: t, m, hm, h => by
    simp only [nbr'] at h ⊢
    cases hv : nz' b r with
    | true => rw [hv] at h; exact nnr' (nic' hm hv).1 h
    | false => rw [hv] at h; cases h
section
variable {b : Bldg} (hb : b.small) (hcode : b.code = 0)
include hb hcode
theorem nnn' {l : List Record} (hl : l.length ≤ 10000) : ∀ (k i : Nat) (Y : Img), i + k = l.length → ImgOK b Y → iter (fun x => nby' x.1.2.2.2.1 x.1.2.2.2.2.1 x.1.2.2.2.2.2.1 x.2.1.1 x.2.1.2.1 x.2.1.2.2.1 x.2.1.2.2.2.1 x.2.1.2.2.2.2.1 x.2.1.2.2.2.2.2.1 x.2.1.2.2.2.2.2.2.1 x.2.1.2.2.2.2.2.2.2.1 x.2.2.1.1 x.2.2.1.2.1 x.2.2.1.2.2.1 x.2.2.1.2.2.2.1 x.2.2.2.1.1 x.2.2.2.1.2.1 x.2.2.2.1.2.2.1 x.2.2.2.1.2.2.2.1) (k + 1) (((), (), (), l, (l.length : Int), (i : Int), ()), (b.tup, Y.tup, Img.none.tup, ())) = some (bif (nbr' b Y (l.drop i)).2 == 0 then .inl (((), (), ()), ((nbr' b Y (l.drop i)).1.tup, Img.none.tup, ())) else .inr (((), 1, ()), (Img.none.tup, ()))) := by
  intro k
  induction k with
  | zero =>
    intro i Y hi hY
    obtain rfl : i = l.length := by omega
    refine nj' ?_
    show nby' l (l.length : Int) (l.length : Int) b.Floors b.Debounce b.Room b.Park b.Empty b.Full b.Over b.Cars Y.Phases Y.Flags Y.Leaving Y.Entries [] [] [] [] = _
    unfold nby'
    rw [decide_eq_false (Int.lt_irrefl (l.length : Int)), List.drop_length]
    rfl
  | succ k ih =>
    intro i Y hi hY
    have hi' : i < l.length := by omega
    have hcc := nf2' hcode
    have he := ncx' hb hY
    have hlp := hY.lp
    have hmx : 100000 ≤ maxLen := by decide
    have ha := noz' hb (by omega) Y (by omega) (by omega) (l.getD i noRec)
    unfold nhp' at ha
    rw [Img.ok_iff.2 hY, Bool.true_and] at ha
    rw [n8' noRec hi']
    simp only [nbr']
    cases hv : nz' b (l.getD i noRec) with
    | true =>
      rw [hv] at ha
      refine (ny' (x' := (((), (), (), l, (l.length : Int), ((i + 1 : Nat) : Int), ()), (b.tup, (nbj' Y (l.getD i noRec)).tup, Img.none.tup, ()))) ?_).trans (ih (i + 1) _ (by omega) (nic' hY hv).1)
      show nby' l (l.length : Int) (i : Int) b.Floors b.Debounce b.Room b.Park b.Empty b.Full b.Over b.Cars Y.Phases Y.Flags Y.Leaving Y.Entries [] [] [] [] = _
      unfold nby'
      rw [show Record.mk 0 0 0 0 0 = noRec from rfl]
      simp only [decide_eq_true (show (i : Int) < (l.length : Int) by omega), nc' (show (0 : Int) ≤ (i : Int) by omega) (show (i : Int) < (l.length : Int) by omega), cond_true, Int.toNat_natCast, ha, Option.bind_some, bne_self_eq_false, cond_false, wrap1 hi' (show l.length ≤ nbw' by unfold nbw'; omega)]
      rfl
    | false =>
      rw [hv] at ha
      refine nj' ?_
      show nby' l (l.length : Int) (i : Int) b.Floors b.Debounce b.Room b.Park b.Empty b.Full b.Over b.Cars Y.Phases Y.Flags Y.Leaving Y.Entries [] [] [] [] = _
      unfold nby'
      rw [show Record.mk 0 0 0 0 0 = noRec from rfl]
      simp only [decide_eq_true (show (i : Int) < (l.length : Int) by omega), nc' (show (0 : Int) ≤ (i : Int) by omega) (show (i : Int) < (l.length : Int) by omega), cond_true, Int.toNat_natCast, ha, cond_false, Option.bind_some]
      rfl
theorem nqr' {l : List Record} (hl : l.length ≤ 10000) : ∀ (k i : Nat) (Y : Img), i + k = l.length → ImgOK b Y → iter (fun x => ncu' x.1.1 x.1.2.2.2.2.1 x.2.1.1 x.2.1.2.1 x.2.1.2.2.1 x.2.1.2.2.2.1 x.2.1.2.2.2.2.1 x.2.1.2.2.2.2.2.1 x.2.1.2.2.2.2.2.2.1 x.2.1.2.2.2.2.2.2.2.1 x.2.2.1.1 x.2.2.1.2.1 x.2.2.1.2.2.1 x.2.2.1.2.2.2.1 x.2.2.2.1.1 x.2.2.2.1.2.1 x.2.2.2.1.2.2.1 x.2.2.2.1.2.2.2.1) (k + 1) ((l, (), (), (), (i : Int), ()), (b.tup, Y.tup, Img.none.tup, ())) = some (bif (nbr' b Y (l.drop i)).2 == 0 then .inl (((), (), ()), ((nbr' b Y (l.drop i)).1.tup, Img.none.tup, ())) else .inr (((), 1, ()), (Img.none.tup, ()))) := by
  intro k
  induction k with
  | zero =>
    intro i Y hi hY
    obtain rfl : i = l.length := by omega
    refine nj' ?_
    show ncu' l (l.length : Int) b.Floors b.Debounce b.Room b.Park b.Empty b.Full b.Over b.Cars Y.Phases Y.Flags Y.Leaving Y.Entries [] [] [] [] = _
    unfold ncu'
    rw [decide_eq_false (Int.lt_irrefl (l.length : Int)), List.drop_length]
    rfl
  | succ k ih =>
    intro i Y hi hY
    have hi' : i < l.length := by omega
    have hcc := nf2' hcode
    have he := ncx' hb hY
    have hlp := hY.lp
    have hmx : 100000 ≤ maxLen := by decide
    have ha := nob' hb Y (by omega) (by omega) (by omega) (r := l.getD i noRec)
    unfold nhp' at ha
    rw [Img.ok_iff.2 hY, Bool.true_and] at ha
    rw [n8' noRec hi']
    simp only [nbr']
    cases hv : nz' b (l.getD i noRec) with
    | true =>
      rw [hv] at ha
      refine (ny' (x' := ((l, (), (), (), ((i + 1 : Nat) : Int), ()), (b.tup, (nbj' Y (l.getD i noRec)).tup, Img.none.tup, ()))) ?_).trans (ih (i + 1) _ (by omega) (nic' hY hv).1)
      show ncu' l (i : Int) b.Floors b.Debounce b.Room b.Park b.Empty b.Full b.Over b.Cars Y.Phases Y.Flags Y.Leaving Y.Entries [] [] [] [] = _
      unfold ncu'
      rw [show Record.mk 0 0 0 0 0 = noRec from rfl]
      simp only [decide_eq_true (show (i : Int) < (l.length : Int) by omega), nc' (show (0 : Int) ≤ (i : Int) by omega) (show (i : Int) < (l.length : Int) by omega), cond_true, Int.toNat_natCast, ha, Option.bind_some, bne_self_eq_false, cond_false, wrap1 hi' (show l.length ≤ nbw' by unfold nbw'; omega)]
      rfl
    | false =>
      rw [hv] at ha
      refine nj' ?_
      show ncu' l (i : Int) b.Floors b.Debounce b.Room b.Park b.Empty b.Full b.Over b.Cars Y.Phases Y.Flags Y.Leaving Y.Entries [] [] [] [] = _
      unfold ncu'
      rw [show Record.mk 0 0 0 0 0 = noRec from rfl]
      simp only [decide_eq_true (show (i : Int) < (l.length : Int) by omega), nc' (show (0 : Int) ≤ (i : Int) by omega) (show (i : Int) < (l.length : Int) by omega), cond_true, Int.toNat_natCast, ha, cond_false, Option.bind_some]
      rfl
theorem nwc' {m : Img} (hm : ImgOK b m) : m.fit := by
  have hcc := nf2' hcode
  have he := ncx' hb hm
  have h1 := hm.lp
  have h2 := hm.lf
  have h3 := hm.ll
  exact ⟨by omega, by omega, by omega, by omega⟩
theorem nj9' {m : Img} (hm : ImgOK b m) {l : List Record} (hl : l.length ≤ 10000) : nch' b.Floors b.Debounce b.Room b.Park b.Empty b.Full b.Over b.Cars m.Phases m.Flags m.Leaving m.Entries l = some (((), (nbr' b m l).2, ()), ((nbr' b m l).1.tup, ())) := by
  have h := nnn' hb hcode hl l.length 0 m (by omega) hm
  rw [List.drop_zero] at h
  have h' : ndf' (((), (), (), l, (l.length : Int), (0 : Int), ()), (b.tup, m.tup, Img.none.tup, ())) = _ := ns' h (by omega)
  unfold nch'
  rw [show ndf' (((), (), (), l, (l.length : Int), (0 : Int), ()), ((b.Floors, b.Debounce, b.Room, b.Park, b.Empty, b.Full, b.Over, b.Cars, ()), (m.Phases, m.Flags, m.Leaving, m.Entries, ()), (([] : List Int), ([] : List Bool), ([] : List Bool), ([] : List Entry), ()), ())) = _ from h']
  by_cases g : (nbr' b m l).2 = 0
  · have hf := nwc' hb hcode (nnr' hm g)
    generalize nbr' b m l = w at g hf
    rw [g]
    simp only [beq_self_eq_true, cond_true, Option.bind_some, Img.tup]
    unfold nd5' nbn' n6' n3'
    rw [nf8' _ hf.p, nf8' _ hf.f, nf8' _ hf.l, nf8' _ hf.e]
    rfl
  · rw [beq_f g, njj' g]
    rfl
theorem num' {m : Img} (hm : ImgOK b m) {l : List Record} (hl : l.length ≤ 10000) : nha' b.Floors b.Debounce b.Room b.Park b.Empty b.Full b.Over b.Cars m.Phases m.Flags m.Leaving m.Entries l = some (((), (nbr' b m l).2, ()), ((nbr' b m l).1.tup, ())) := by
  have h := nqr' hb hcode hl l.length 0 m (by omega) hm
  rw [List.drop_zero] at h
  have h' : nfy' ((l, (), (), (), (0 : Int), ()), (b.tup, m.tup, Img.none.tup, ())) = _ := ns' h (by omega)
  unfold nha'
  rw [show nfy' ((l, (), (), (), (0 : Int), ()), ((b.Floors, b.Debounce, b.Room, b.Park, b.Empty, b.Full, b.Over, b.Cars, ()), (m.Phases, m.Flags, m.Leaving, m.Entries, ()), (([] : List Int), ([] : List Bool), ([] : List Bool), ([] : List Entry), ()), ())) = _ from h']
  by_cases g : (nbr' b m l).2 = 0
  · generalize nbr' b m l = w at g
    rw [g]
    rfl
  · rw [beq_f g, njj' g]
    rfl
end
structure Rnd.from (b : Bldg) (m : Img) (X : Rnd) : Prop where
  val : ∀ r ∈ X.recs, nz' b r = true
  img : X.img = nbv' m X.recs
theorem ny2' {b : Bldg} {m : Img} {X : Rnd} (h : X.from b m) {r : Record} (hv : nz' b r = true) : (stepW r X).from b m := by
  refine ⟨fun x hx => ?_, ?_⟩
  · rcases List.mem_append.1 (show x ∈ X.recs ++ [r] from hx) with hx | hx
    · exact h.val x hx
    · rw [List.mem_singleton.1 hx]; exact hv
  · show nbj' X.img r = nbv' m (X.recs ++ [r])
    rw [nkd', ← h.img]; rfl
theorem nys' {b : Bldg} {m : Img} {X : Rnd} (h : X.from b m) {e : Entry} (hv : nu' b e.Floor e.Dir = true) : (stepG b e X).from b m := by
  unfold stepG
  cases roomV b X.img with
  | true => exact ny2' h (noa' hv)
  | false => exact ⟨h.val, h.img⟩
theorem ns5' {b : Bldg} {m : Img} : ∀ {l : List Entry} {X : Rnd}, X.from b m → (∀ e ∈ l, nu' b e.Floor e.Dir = true) → (regL b l X).from b m
  | [], _, h, _ => h
  | e :: t, X, h, hv => by
    show (regL b t (stepG b e X)).from b m
    exact ns5' (nys' h (hv e (List.mem_cons_self ..))) fun x hx => hv x (List.mem_cons_of_mem _ hx)
theorem nv6' {b : Bldg} {m : Img} {X : Rnd} (h : X.from b m) {l : List Record} (hv : ∀ r ∈ l, nz' b r = true) : (wrL l X).from b m := by
  refine ⟨fun x hx => ?_, ?_⟩
  · rcases List.mem_append.1 (show x ∈ X.recs ++ l from hx) with hx | hx
    · exact h.val x hx
    · exact hv x hx
  · show nbv' X.img l = nbv' m (X.recs ++ l)
    rw [nkd', ← h.img]
theorem n30' {E : List Entry} {xs : List Int} {r : Record} {x : Int} (h : x ∈ xsV E xs r) : x ∈ xs ∨ x = 0 := by
  unfold xsV at h
  cases hc : (r.Kind == 2) && hasF (keyE r.Floor r.Dir) E with
  | true =>
    rw [hc] at h
    rcases List.mem_append.1 h with h | h
    · exact .inl (List.mem_of_mem_take h)
    · exact .inl (List.mem_of_mem_drop h)
  | false =>
    rw [hc] at h
    simp only [cond_false] at h
    cases hd : (r.Kind == 1) && !hasF (keyE r.Floor r.Dir) E with
    | true =>
      rw [hd] at h
      rcases List.mem_append.1 h with h | h
      · rcases List.mem_append.1 h with h | h
        · exact .inl (List.mem_of_mem_take h)
        · exact .inr (List.mem_singleton.1 h)
      · exact .inl (List.mem_of_mem_drop h)
    | false => rw [hd] at h; exact .inl h
def nhq' (xs : List Int) : Prop := ∀ x ∈ xs, 0 ≤ x ∧ x ≤ 1000000
theorem nuw' {E : List Entry} {xs : List Int} (h : nhq' xs) (r : Record) : nhq' (xsV E xs r) := fun x hx => by
  rcases n30' hx with hx | rfl
  · exact h x hx
  · omega
theorem nu0' : ∀ {l : List Record} {m : Img} {xs : List Int}, nhq' xs → nhq' (xsL m xs l)
  | [], _, _, h => h
  | r :: t, m, xs, h => by
    show nhq' (xsL (nbj' m r) (xsV m.Entries xs r) t)
    exact nu0' (nuw' h r)
theorem ns2' (b : Bldg) : ∀ {l : List Entry} {X : Rnd}, nhq' X.xs → nhq' (regL b l X).xs
  | [], _, h => h
  | e :: t, X, h => by
    show nhq' (regL b t (stepG b e X)).xs
    refine ns2' b ?_
    unfold stepG
    cases roomV b X.img with
    | true => exact nuw' h (regR e)
    | false => exact h
section
variable {b : Bldg} {m : Img} {vs : List View} {xs : List Int} (h : Plan22 b m vs xs) (ps : List Calls) (press : Int × Int) (good : Bool)
include h
theorem ny5' : (tickX b m xs vs ps press good).from b m := by
  have h0 : ∀ L : Lan, Rnd.from b m ⟨[], m, xs, L, (0, 0)⟩ := fun L => ⟨(fun r hr => by cases hr), rfl⟩
  unfold tickX
  cases good with
  | false => exact h0 _
  | true =>
    have hv := nmf' h.code vs (l := m.Entries) fun e he => (nea'.1 (h.img.en e he)).1
    exact ns5' (nv6' (h0 _) fun r hr => (hv r hr).1) fun e he => nnk' h.small h.code he
theorem nyu' : nhq' (tickX b m xs vs ps press good).xs := by
  have h0 : nhq' xs := h.xval
  unfold tickX
  cases good with
  | false => exact h0
  | true => exact ns2' b (nu0' h0)
theorem n0y' : Plan22 b (tickX b m xs vs ps press good).img vs (tickX b m xs vs ps press good).xs := by
  obtain ⟨hok, _⟩ := nnb' h.small h.code h.img h.xlen (vs := vs) ps press good
  have he := ncx' h.small hok.img
  exact ⟨h.small, h.code, h.cars, hok.img, by omega, h.made, hok.len, nyu' h ps press good⟩
theorem nyi' : (tickV b m xs vs ps press good).from b m := by
  obtain ⟨hok, _⟩ := nnb' h.small h.code h.img h.xlen (vs := vs) ps press good
  have hw := nv6' (ny5' h ps press good) (l := (tickP b m xs vs ps press good).1) (npn' h.code hok.img _)
  exact ⟨hw.val, hw.img⟩
theorem n29' : ImgOK b (tickV b m xs vs ps press good).img ∧ (tickV b m xs vs ps press good).xs.length = (tickV b m xs vs ps press good).img.Entries.length ∧ (tickV b m xs vs ps press good).recs.length ≤ 1000 := by
  have hn := n0y' h ps press good
  obtain ⟨hok, hrl⟩ := nnb' h.small h.code h.img h.xlen (vs := vs) ps press good
  have he := ncx' h.small hok.img
  have hp := nnq' (b := b) (by have := h.cars; omega) hn.vlen (tickX b m xs vs ps press good).img.Entries (tickX b m xs vs ps press good).xs [] (tickX b m xs vs ps press good).img hok.len hok.img rfl
  have e1 : tickP b m xs vs ps press good = (planR b vs (tickX b m xs vs ps press good).img.Entries (tickX b m xs vs ps press good).xs, planN b vs (tickX b m xs vs ps press good).img.Entries (tickX b m xs vs ps press good).xs, 0, ()) := hn.planV_eq
  have hpl := nom' b vs (tickX b m xs vs ps press good).img.Entries (tickX b m xs vs ps press good).xs
  have e2 : (tickV b m xs vs ps press good).img = nbv' (tickX b m xs vs ps press good).img (tickP b m xs vs ps press good).1 := rfl
  have e3 : (tickV b m xs vs ps press good).xs = (tickP b m xs vs ps press good).2.1 := rfl
  have e4 : (tickV b m xs vs ps press good).recs = (tickX b m xs vs ps press good).recs ++ (tickP b m xs vs ps press good).1 := rfl
  rw [e2, e3, e4, e1]
  simp only
  rw [hp.1]
  refine ⟨hp.2.2, ?_, by rw [List.length_append]; omega⟩
  rw [nor' b vs _ _ hok.len]
  show _ = (decL b vs (tickX b m xs vs ps press good).img.Entries (tickX b m xs vs ps press good).xs).length
  rw [nv4' b vs _ _ hok.len]
end
end Go.Ovl
