/- Stores and new blocks; how a computation of the monad is read. -/
import Derived.Test.YtfooilbkiclplaaAb4
namespace Go.Ab
variable {G : Sig}

/-! ### Reading a computation that has succeeded -/
theorem M.bind_spec {α β R : Type} {m : M α} {f : α → M β} {k : β → Option R} {r : R} (h : M.bind m f R k = some r) : m R (fun a => f a R k) = some r := h
theorem M.need_spec {b : Bool} {R : Type} {k : Unit → Option R} {r : R} (h : M.need b R k = some r) : b = true ∧ k () = some r := by
  cases b
  · simp [M.need] at h
  · exact ⟨rfl, h⟩
theorem M.opt_spec {α R : Type} {o : Option α} {k : α → Option R} {r : R} (h : M.opt o R k = some r) : ∃ a, o = some a ∧ k a = some r := by
  cases o with
  | none => simp [M.opt] at h
  | some a => exact ⟨a, rfl, h⟩
theorem M.split_spec {b : Bool} {R : Type} {k : Bool → Option R} {r : R} (h : M.split b R k = some r) : k b = some r := by
  cases b <;> exact h
theorem M.bindneed {β R : Type} {b : Bool} {f : Unit → M β} {k : β → Option R} {r : R} (h : M.bind (M.need b) f R k = some r) : b = true ∧ f () R k = some r := M.need_spec h
theorem M.bindopt {α β R : Type} {o : Option α} {f : α → M β} {k : β → Option R} {r : R} (h : M.bind (M.opt o) f R k = some r) : ∃ a, o = some a ∧ f a R k = some r := M.opt_spec h
section
variable {ev : Operand → Option (Sv G.T)} {R β : Type} {r : R} {k : β → Option R}
theorem bindP {x : Operand} {f : Pv G.T → M β} (h : M.bind (evP ev x) f R k = some r) : ∃ y, ev x = some (.p y) ∧ f y R k = some r := by
  unfold M.bind evP at h
  split at h
  · rename_i y hy; exact ⟨y, hy, h⟩
  · simp at h
theorem bindC {x : Operand} {f : Cv G.T → M β} (h : M.bind (evC ev x) f R k = some r) : ∃ y, ev x = some (.p (.one y)) ∧ f y R k = some r := by
  unfold M.bind evC at h
  split at h
  · rename_i y hy; exact ⟨y, hy, h⟩
  · simp at h
theorem bindI {x : Operand} {f : IntKind × Int → M β} (h : M.bind (evI ev x) f R k = some r) : ∃ d n, ev x = some (.p (.one (.sc (.int d n)))) ∧ f (d, n) R k = some r := by
  unfold M.bind evI at h
  split at h
  · rename_i d n hy; exact ⟨d, n, hy, h⟩
  · simp at h
theorem bindB {x : Operand} {f : Bool → M β} (h : M.bind (evB ev x) f R k = some r) : ∃ b, ev x = some (.p (.one (.sc (.bool b)))) ∧ f b R k = some r := by
  unfold M.bind evB at h
  split at h
  · rename_i b hy; exact ⟨b, hy, h⟩
  · simp at h
theorem bindPs : ∀ {l : List Operand} {f : List (Pv G.T) → M β}, M.bind (evPs ev l) f R k = some r → ∃ ys, f ys R k = some r ∧ F2 (fun x y => ev x = some (.p y)) l ys
  | [], f, h => ⟨[], h, .nil⟩
  | x :: t, f, h => by
    unfold evPs at h
    obtain ⟨y, hy, h⟩ := bindP (f := fun y => M.bind (M.bind (evPs ev t) fun l => M.ret (y :: l)) f) h
    obtain ⟨ys, h, hys⟩ := bindPs (l := t) (f := fun l => f (y :: l)) h
    exact ⟨y :: ys, h, hys.cons hy⟩
theorem bindParts : ∀ {l : List (Nat × Operand)} {f : List (Nat × Pv G.T) → M β}, M.bind (evParts ev l) f R k = some r →
    ∃ ys, f ys R k = some r ∧ F2 (fun x y => x.1 = y.1 ∧ ev x.2 = some (.p y.2)) l ys
  | [], f, h => ⟨[], h, .nil⟩
  | (i, x) :: t, f, h => by
    unfold evParts at h
    obtain ⟨y, hy, h⟩ := bindP (f := fun y => M.bind (M.bind (evParts ev t) fun l => M.ret ((i, y) :: l)) f) h
    obtain ⟨ys, h, hys⟩ := bindParts (l := t) (f := fun l => f ((i, y) :: l)) h
    exact ⟨(i, y) :: ys, h, hys.cons ⟨rfl, hy⟩⟩
end

/-! ### Values of one cell -/
theorem rd_one {S : Nat → Prop} {h : Array Obj} {c : Cv G.T} {v : Value} (r : Rd G S h c v) : v.oneCell' = true := by
  cases r with
  | sc v hv => cases v <;> first | rfl | (simp [isSc] at hv)
  | _ => rfl
theorem rc_one {ν : Nat → Option Value} {S : Nat → Prop} {h : Array Obj} {c : Cv G.T} {v : Value} (r : Rc G ν S h c v) : v.oneCell' = true := by
  cases c with
  | ptr n off => obtain ⟨b, _, rfl⟩ := r; rfl
  | pd n off s len i => obtain ⟨_, b, _, rfl⟩ := r; rfl
  | pr n t i off => obtain ⟨b, len, cap, _, _, rfl⟩ := r; rfl
  | own n => obtain ⟨a, len, cap, _, rfl⟩ := r; rfl
  | clo f p q => obtain ⟨vp, vq, rfl, _⟩ := r; rfl
  | sc v => exact rd_one r
  | ro t l => exact rd_one r
  | rp t x off => exact rd_one r
theorem one_cells {v : Value} (h : v.oneCell' = true) : v.cells = #[v] := by cases v <;> first | rfl | (simp [Value.oneCell'] at h)
theorem rp_cells {ν : Nat → Option Value} {S : Nat → Prop} {h : Array Obj} {x : Pv G.T} {v : Value} (r : Rp G ν S h x v) : F2 (Rc G ν S h) x.cells v.cells.toList := by
  cases r with
  | one c v hc => rw [one_cells (rc_one hc)]; exact F2.nil.cons hc
  | agg cs vs hc => simpa [Pv.cells, Value.cells] using hc
theorem rp_of_cells {ν : Nat → Option Value} {S : Nat → Prop} {h : Array Obj} {t : Nat} {cs : List (Cv G.T)} {x : Pv G.T} (hp : pack G t cs = some x) {vs : List Value} (r : F2 (Rc G ν S h) cs vs) :
    Rp G ν S h x (if (G.ty t).isAgg then .agg vs.toArray else vs.getD 0 undef) := by
  unfold pack at hp
  cases ha : (G.ty t).isAgg with
  | true => simp [ha] at hp; subst hp; simp; exact .agg cs vs r
  | false =>
    simp only [ha, cond_false] at hp
    split at hp
    · simp at hp; subst hp
      obtain ⟨y, t, rfl, hy, ht⟩ := r.inv
      simp; exact .one _ _ hy
    · simp at hp

/-! ### The model's stores into one block -/
structure Wrote (w w' : World) (b : Nat) (c' : Array Value) (te : TypeId) : Prop where
  here : w'.heap[b]? = some (.cells c' te (0, 0))
  there : ∀ k, k ≠ b → w'.heap[k]? = w.heap[k]?
  size : w'.heap.size = w.heap.size
  env : w'.os = w.os ∧ w'.tape = w.tape ∧ w'.output = w.output
theorem run_storeCells {P : Program} {b off : Nat} {te : TypeId} : ∀ (vs : List Value) (i : Nat) (w : World) (c : Array Value), w.heap[b]? = some (.cells c te (0, 0)) →
    off + i + vs.length ≤ c.size → (∀ v ∈ vs, v.oneCell' = true) →
    ∃ w' c', (storeCells ⟨b, off, none⟩ vs i).run P w = .ok () w' ∧ Wrote w w' b c' te ∧ c'.size = c.size ∧
      ∀ j, c'[j]? = if off + i ≤ j ∧ j < off + i + vs.length then vs[j - (off + i)]? else c[j]?
  | [], i, w, c, hb, _, _ => ⟨w, c, rfl, ⟨hb, fun _ _ => rfl, rfl, rfl, rfl, rfl⟩, rfl, fun j => by simp; omega⟩
  | v :: vs, i, w, c, hb, hlen, h1 => by
    have hcell : w.cell? ⟨b, off + i, none⟩ = some (c[off + i]'(by simp at hlen; omega)) := by
      rw [cell_of_row w b (off + i) c te (0, 0) hb]; simp
    have hfr : w.frozen? ⟨b, off + i, none⟩ = false := frozen_of_row w b (off + i) c te hb
    have hst : (Go.store ((⟨b, off, none⟩ : Addr).add i) v).run P w = .ok () (w.setCell ⟨b, off + i, none⟩ v) := by
      simp only [add_mk]
      rw [run_store P w _ v .plain (h1 v (by simp))]
      simp [hcell, hfr]
    have hb' : (w.setCell ⟨b, off + i, none⟩ v).heap[b]? = some (.cells (c.setIfInBounds (off + i) v) te (0, 0)) := heap_setCell_same w b (off + i) c te v hb
    obtain ⟨w', c', hr, hw, hs, hc⟩ := run_storeCells (P := P) (off := off) vs (i + 1) _ _ hb' (by simp at hlen ⊢; omega) (fun u hu => h1 u (by simp [hu]))
    refine ⟨w', c', ?_, ⟨hw.here, fun k hk => (hw.there k hk).trans (heap_setCell_other w _ k v hk), by rw [hw.size]; simp, hw.env⟩, by rw [hs]; simp, fun j => ?_⟩
    · simp only [storeCells, Sem.run_bind]
      rw [hst]
      exact hr
    · rw [hc j]
      simp only [Array.getElem?_setIfInBounds, List.length_cons]
      by_cases hj : off + i = j
      · subst hj
        have : off + i < c.size := by simp at hlen; omega
        rw [if_neg (by omega), if_pos (by omega)]; simp [this]
      · by_cases hr1 : off + (i + 1) ≤ j ∧ j < off + (i + 1) + vs.length
        · rw [if_pos hr1, if_pos (by omega), show j - (off + i) = (j - (off + (i + 1))) + 1 by omega]
          simp
        · rw [if_neg hr1, if_neg hj, if_neg (by omega)]

/-! ### Outcomes on memory as a function -/
def appD (h : Nat → Option (Blk G.T)) : List (Nat × Option (Blk G.T)) → Nat → Option (Blk G.T)
  | [] => h
  | (n, ob) :: t => appD (fun m => if n = m then ob else h m) t
theorem get_putD : ∀ (d : List (Nat × Option (Blk G.T))) (hp : List (Nat × Blk G.T)), get (putD hp d) = appD (get hp) d
  | [], hp => rfl
  | (n, none) :: t, hp => by
    rw [putD, get_putD t, appD]; congr 1; funext m; exact get_del hp n m
  | (n, some b) :: t, hp => by
    rw [putD, get_putD t, appD]; congr 1; funext m; exact get_put hp n m b

section
variable {ν : Nat → Option Value} {S B : Nat → Prop} {hp : Nat → Option (Blk G.T)} {w : World}
theorem HRel.nu (hr : HRel G ν S B hp w) {n : Nat} (h : hp n ≠ none) : ν n ≠ none := by
  cases hk : hp n with
  | none => exact absurd hk h
  | some k =>
    have := hr.blk n k hk
    cases k with
    | cells cs => obtain ⟨b, c, te, h1, _⟩ := this; rw [h1]; simp
    | row t l =>
      rcases this with ⟨h1, _⟩ | ⟨b, cap, c, te, h1, _⟩
      · rw [h1]; simp
      · rw [h1]; simp
/-- The block of a name lies in memory. -/
theorem HRel.lt (hr : HRel G ν S B hp w) {n b : Nat} {x : Value} (h : hp n ≠ none) (hx : ν n = some x) (hb : blkOf x = some b) : b < w.heap.size := by
  cases hk : hp n with
  | none => exact absurd hk h
  | some k =>
    have hlt : ∀ {o : Obj}, w.heap[b]? = some o → b < w.heap.size := fun h => (Array.getElem?_eq_some_iff.1 h).1
    have := hr.blk n k hk
    cases k with
    | cells cs => obtain ⟨b', c, te, h1, h2, _⟩ := this; rw [hx] at h1; simp at h1; subst h1; simp [blkOf] at hb; subst hb; exact hlt h2
    | row t l =>
      rcases this with ⟨h1, _⟩ | ⟨b', cap, c, te, h1, h2, _⟩
      · rw [hx] at h1; simp at h1; subst h1; simp [blkOf] at hb
      · rw [hx] at h1; simp at h1; subst h1; simp [blkOf] at hb; subst hb; exact hlt h2

/-- A block of a name has been written: what holds behind it. -/
theorem HRel.wrote (hr : HRel G ν S B hp w) {n b : Nat} {k' : Blk G.T} {x : Value} {c' : Array Value} {te : TypeId} {w' : World} (hn : hp n ≠ none) (hx : ν n = some x) (hb : blkOf x = some b)
    (hw : Wrote w w' b c' te) (hk : Rb G ν S w'.heap n k') : HRel G ν S B (fun m => if n = m then some k' else hp m) w' := by
  have hS : ¬ S b := (hr.own n x b hn hx hb).1
  have le : Le ν ν S S w.heap w'.heap := ⟨fun _ _ h => h, fun _ h => h, fun b' hb' => hw.there b' (fun e => hS (e ▸ hb'))⟩
  have alive : ∀ m, (if n = m then some k' else hp m) ≠ none → hp m ≠ none := by
    intro m hm
    by_cases e : n = m
    · exact e ▸ hn
    · simpa [e] using hm
  refine ⟨fun m k hm => ?_, fun m m' y y' b' h1 h2 h3 h4 h5 h6 => hr.apart m m' y y' b' (alive m h1) (alive m' h2) h3 h4 h5 h6,
    fun m y b' h1 h2 h3 => hr.own m y b' (alive m h1) h2 h3, fun b' hb' => by rw [hw.size]; exact hr.stay b' hb'⟩
  by_cases e : n = m
  · subst e; simp at hm; subst hm; exact hk
  · simp [e] at hm
    refine (hr.blk m k hm).mono le fun y b' hy hb' => hw.there b' (fun e' => e ?_)
    subst e'
    exact (hr.apart m n y x b' (by simp [hm]) hn hy hx hb' hb).symm

theorem poke_sound {P : Program} (ok : SigOK P G) (hr : HRel G ν S B hp w) {c : Cv G.T} {v : Value} (hv : Rc G ν S w.heap c v) {new : List (Cv G.T)} {vs : List Value} (hnew : F2 (Rc G ν S w.heap) new vs)
    {n : Nat} {k' : Blk G.T} (h : poke hp new c = some (n, k')) :
    ∃ b off w' x, v = .pointer (some ⟨b, off, none⟩) ∧ (storeCells ⟨b, off, none⟩ vs).run P w = .ok () w' ∧ hp n ≠ none ∧ ν n = some x ∧ blkOf x = some b ∧
      (∃ c' te, Wrote w w' b c' te) ∧ HRel G ν S B (fun m => if n = m then some k' else hp m) w' := by
  have hone : ∀ u ∈ vs, u.oneCell' = true := by
    intro u hu
    obtain ⟨i, hi, e⟩ := List.getElem_of_mem hu
    have hi' : i < new.length := by rw [hnew.1]; exact hi
    exact rc_one (hnew.2 i _ u (List.getElem?_eq_getElem hi') (by rw [List.getElem?_eq_getElem hi, e]))
  have hS : ∀ {b : Nat} {x : Value} {m : Nat}, hp m ≠ none → ν m = some x → blkOf x = some b → ∀ {w' : World} {c' : Array Value} {te : TypeId}, Wrote w w' b c' te → Le ν ν S S w.heap w'.heap := by
    intro b x m hm hx hb w' c' te hw
    exact ⟨fun _ _ h => h, fun _ h => h, fun b' hb' => hw.there b' (fun e => (hr.own m x b hm hx hb).1 (e ▸ hb'))⟩
  cases c with
  | ptr m off =>
    simp only [poke] at h
    split at h
    · rename_i ds hd
      split at h
      · rename_i ds' hs
        simp at h; obtain ⟨rfl, rfl⟩ := h
        obtain ⟨b, c, te, h1, h2, h3⟩ := hr.blk m _ hd
        obtain ⟨b', h4, rfl⟩ := hv
        simp only at h4
        rw [h1] at h4; simp at h4; subst h4
        obtain ⟨s1, s2, s3⟩ := splice_spec _ _ _ _ hs
        have hl := h3.1
        have hl2 := hnew.1
        obtain ⟨w', c', hrun, hw, hcs, hc⟩ := run_storeCells (P := P) (off := off) vs 0 w c h2 (by simp at hl; omega) hone
        have hm : hp m ≠ none := by rw [hd]; simp
        have le := hS hm h1 rfl hw
        refine ⟨b, off, w', _, rfl, hrun, hm, h1, rfl, ⟨c', te, hw⟩, hr.wrote hm h1 rfl hw ⟨b, c', te, h1, hw.here, ?_⟩⟩
        refine ⟨by simp at hl ⊢; omega, fun i x y hx hy => ?_⟩
        rw [s3 i] at hx
        simp at hy
        rw [hc i] at hy
        by_cases hi : off ≤ i ∧ i < off + new.length
        · rw [if_pos hi] at hx
          rw [if_pos (by omega)] at hy
          exact (hnew.2 _ x y hx (by simpa using hy)).mono le
        · rw [if_neg hi] at hx
          rw [if_neg (by omega)] at hy
          exact (h3.2 i x y hx (by simpa using hy)).mono le
      · simp at h
    · simp at h
  | pd m off s len i =>
    simp only [poke] at h
    split at h
    · rename_i ds hd
      split at h
      · rename_i ds' hs
        simp at h; obtain ⟨rfl, rfl⟩ := h
        obtain ⟨b, c, te, h1, h2, h3⟩ := hr.blk m _ hd
        obtain ⟨hil, b', h4, rfl⟩ := hv
        simp only at h4
        rw [h1] at h4; simp at h4; subst h4
        have hl := h3.1
        have hl2 := hnew.1
        -- what the changed cells are: at the element's place the new ones, elsewhere the old ones
        have key : ∀ (qs : List Nat) (es : List (Cv G.T)), pokeAt ds off s i new qs = some es →
            es.length = ds.length ∧ (i ∈ qs → off + i * s + new.length ≤ ds.length) ∧ ∀ j, es[j]? = if i ∈ qs ∧ off + i * s ≤ j ∧ j < off + i * s + new.length then new[j - (off + i * s)]? else ds[j]? := by
          intro qs
          induction qs with
          | nil => intro es he; simp [pokeAt] at he; subst he; simp
          | cons q qs ih =>
            intro es he
            simp only [pokeAt] at he
            split at he
            · rename_i es' he'
              obtain ⟨i1, i2, i3⟩ := ih es' he'
              split at he
              · rename_i old hold
                split at he
                · rename_i l hl'
                  obtain ⟨p1, p2, p3⟩ := part_spec hold
                  obtain ⟨m1, m2⟩ := mapO_spec _ _ hl'
                  obtain ⟨s1, s2, s3⟩ := splice_spec _ _ _ _ he
                  have hlen : l.length = new.length := by simp [p1] at m1; omega
                  have hlv : ∀ j, j < new.length → l[j]? = if i = q then new[j]? else old[j]? := by
                    intro j hj
                    have hz : (new.zip old)[j]? = some (new[j], old[j]) := by simp [hj, p1]
                    obtain ⟨y, hy, hf⟩ := m2 j _ hz
                    have := iteCv_spec hf
                    rw [hy, this]
                    by_cases e : i = q
                    · simp [e, hj]
                    · have hbf : Nat.beq i q = false := by cases hb : Nat.beq i q with | false => rfl | true => exact absurd (beq_true.1 hb) e
                      simp [hbf, e, p1, hj]
                  refine ⟨by omega, fun hi => ?_, fun j => ?_⟩
                  · rcases List.mem_cons.1 hi with rfl | hi
                    · rw [i1] at p2; exact p2
                    · exact i2 hi
                  · rw [s3 j, hlen]
                    by_cases hj : off + q * s ≤ j ∧ j < off + q * s + new.length
                    · rw [if_pos hj, hlv _ (by omega)]
                      by_cases e : i = q
                      · subst e
                        rw [if_pos rfl, if_pos ⟨by simp, hj⟩]
                      · rw [if_neg e, p3 _ (by omega), i3, show off + q * s + (j - (off + q * s)) = j by omega]
                        simp [e]
                    · rw [if_neg hj, i3]
                      by_cases e : i = q
                      · subst e
                        rw [if_neg (by intro h; exact hj ⟨h.2.1, h.2.2⟩), if_neg (by intro h; exact hj ⟨h.2.1, h.2.2⟩)]
                      · simp [e]
                · simp at he
              · simp at he
            · simp at he
        obtain ⟨k1, k2, k3⟩ := key _ _ hs
        have himem : i ∈ upTo len := by simp only [upTo_eq, List.mem_range]; exact hil
        obtain ⟨w', c', hrun, hw, hcs, hc⟩ := run_storeCells (P := P) (off := off + i * s) vs 0 w c h2 (by have := k2 himem; simp at hl; omega) hone
        have hm : hp m ≠ none := by rw [hd]; simp
        have le := hS hm h1 rfl hw
        refine ⟨b, off + i * s, w', _, rfl, hrun, hm, h1, rfl, ⟨c', te, hw⟩, hr.wrote hm h1 rfl hw ⟨b, c', te, h1, hw.here, ?_⟩⟩
        refine ⟨by simp at hl ⊢; omega, fun j x y hx hy => ?_⟩
        rw [k3 j] at hx
        simp at hy
        rw [hc j] at hy
        by_cases hi : off + i * s ≤ j ∧ j < off + i * s + new.length
        · rw [if_pos ⟨himem, hi⟩] at hx
          rw [if_pos (by omega)] at hy
          exact (hnew.2 _ x y hx (by simpa using hy)).mono le
        · rw [if_neg (by intro h; exact hi h.2)] at hx
          rw [if_neg (by omega)] at hy
          exact (h3.2 j x y hx (by simpa using hy)).mono le
      · simp at h
    · simp at h
  | pr m t i off =>
    simp only [poke] at h
    split at h
    · rename_i t' l hd
      rw [beq_ite] at h
      by_cases ht : t = t'
      · subst ht
        rw [if_pos rfl] at h
        split at h
        · rename_i cs' hs
          split at h
          · rename_i x' hx'
            simp at h; obtain ⟨rfl, rfl⟩ := h
            obtain ⟨b, len, cap, h4, hi, rfl⟩ := hv
            rcases hr.blk m _ hd with ⟨h1, h2⟩ | ⟨b', cap', c, te, h1, h2, h3, hsz, h5⟩
            · rw [h1] at h4; simp at h4
            · rw [h1] at h4; simp at h4
              obtain ⟨rfl, rfl, rfl⟩ := h4
              have he := ok.encdec _ _ _ hx'
              obtain ⟨s1, s2, s3⟩ := splice_spec _ _ _ _ hs
              have hel := ok.encl t (l.getD i (G.dfl t))
              have hl2 := hnew.1
              have hroom : i * G.sz t + off + 0 + vs.length ≤ c.size := by
                rw [hsz]
                have : (i + 1) * G.sz t ≤ cap' * G.sz t := Nat.mul_le_mul_right _ (by omega)
                rw [Nat.add_mul] at this; omega
              obtain ⟨w', c', hrun, hw, hcs, hc⟩ := run_storeCells (P := P) (off := i * G.sz t + off) vs 0 w c h2 hroom hone
              have hm : hp m ≠ none := by rw [hd]; simp
              have le := hS hm h1 rfl hw
              refine ⟨b', i * G.sz t + off, w', _, rfl, hrun, hm, h1, rfl, ⟨c', te, hw⟩, hr.wrote hm h1 rfl hw (.inr ⟨b', cap', c', te, by simpa using h1, hw.here, by simpa using h3, by rw [hcs, hsz], ?_, h5.2⟩)⟩
              intro i' j x cv hx hcv
              have hel' := ok.encl t x
              have hj : j < (G.enc t x).length := (List.getElem?_eq_some_iff.1 hcv).1
              rw [hc]
              rw [List.getElem?_set] at hx
              by_cases hii : i = i'
              · subst hii
                simp [hi] at hx
                subst hx
                rw [he, s3] at hcv
                by_cases hjn : off ≤ j ∧ j < off + new.length
                · rw [if_pos hjn] at hcv
                  rw [if_pos (by omega)]
                  obtain ⟨y, hy, hr'⟩ := hnew.get hcv
                  refine ⟨y, by rw [show i * G.sz t + j - (i * G.sz t + off + 0) = j - off by omega]; exact hy, ?_⟩
                  exact (rd_of_rc ok (t := t) (x := x') (by rw [he]; exact List.mem_of_getElem? (by rw [s3, if_pos hjn]; exact hcv)) hr').mono le.st le.hp
                · rw [if_neg hjn] at hcv
                  rw [if_neg (by omega)]
                  obtain ⟨v, hv, hrd⟩ := h5.1 i j (l.getD i (G.dfl t)) cv (by simp [hi]) hcv
                  exact ⟨v, hv, hrd.mono le.st le.hp⟩
              · rw [if_neg hii] at hx
                obtain ⟨v, hv, hrd⟩ := h5.1 i' j x cv hx hcv
                refine ⟨v, ?_, hrd.mono le.st le.hp⟩
                rw [if_neg ?_]
                · exact hv
                · rcases Nat.lt_or_gt_of_ne hii with h' | h'
                  · have : (i + 1) * G.sz t ≤ i' * G.sz t := Nat.mul_le_mul_right _ h'
                    rw [Nat.add_mul] at this; omega
                  · have : (i' + 1) * G.sz t ≤ i * G.sz t := Nat.mul_le_mul_right _ h'
                    rw [Nat.add_mul] at this; omega
          · simp at h
        · simp at h
      · rw [if_neg ht] at h; simp at h
    · simp at h
  | sc v => simp [poke] at h
  | own m => simp [poke] at h
  | ro t l => simp [poke] at h
  | rp t x off => simp [poke] at h
  | clo f p q => simp [poke] at h
end
end Go.Ab
