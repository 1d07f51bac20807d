/- Texts of this claim's author, joined: Vn, Vo, Vp, Vq, Vr, Vs, Vu, Pa, Pb, Pc, Qa, Qb, Qc, Qd, Qe, Qf, Qg, Pd, Pe, Pf, Pg, Ph. -/
import Derived.Test.YtolhbjfaahcekaaMa
import Derived.Orders
import Derived.Scope
import Derived.Lib.Bytealg
import Derived.Laws.Externs
section
/- A call's contract, told of its own variables alone, among others: the frame. -/
set_option linter.unusedVariables false
set_option linter.unusedSimpArgs false
namespace Go.Proofs.Ytolhbjfaahcekaa

def Tk.ren (κ : Nat → Nat) : Tk → Tk
  | .own k => .own (κ k)
  | t => t
mutual
def PV.ren (ρ κ : Nat → Nat) : PV → PV
  | .list sz xs t => .list sz (PVs.ren ρ κ xs) (t.ren κ)
  | .ref r o => .ref (ρ r) o
  | .elem x => .elem (PV.ren ρ κ x)
  | .agg cs => .agg (PVs.ren ρ κ cs)
  | .tup cs => .tup (PVs.ren ρ κ cs)
  | .clo fn fs cs => .clo fn (PVs.ren ρ κ fs) (PVs.ren ρ κ cs)
  | .int k n => .int k n
  | .bool b => .bool b
  | .str l => .str l
  | .val v => .val v
def PVs.ren (ρ κ : Nat → Nat) : List PV → List PV
  | [] => []
  | x :: xs => PV.ren ρ κ x :: PVs.ren ρ κ xs
end
section
variable {ρ κ : Nat → Nat}
theorem PVs.ren_map : ∀ xs : List PV, PVs.ren ρ κ xs = xs.map (PV.ren ρ κ)
  | [] => rfl
  | x :: xs => by simp [PVs.ren, PVs.ren_map xs]
theorem PVs.ren_length (xs : List PV) : (PVs.ren ρ κ xs).length = xs.length := by rw [PVs.ren_map]; simp
theorem PVs.ren_append (xs ys : List PV) : PVs.ren ρ κ (xs ++ ys) = PVs.ren ρ κ xs ++ PVs.ren ρ κ ys := by simp [PVs.ren_map]
theorem PV.ren_cells (x : PV) : (PV.ren ρ κ x).cells = PVs.ren ρ κ x.cells := by cases x <;> simp [PV.ren, PV.cells, PVs.ren]
theorem PVs.ren_cellsOf : ∀ xs : List PV, cellsOf (PVs.ren ρ κ xs) = PVs.ren ρ κ (cellsOf xs)
  | [] => rfl
  | x :: xs => by rw [PVs.ren, cellsOf_cons, cellsOf_cons, PVs.ren_append, PV.ren_cells, PVs.ren_cellsOf xs]
theorem PV.ren_isCell (x : PV) : (PV.ren ρ κ x).isCell = x.isCell := by cases x <;> rfl
mutual
/-- What speaks of no variable and no object is as it is. -/
theorem PV.ren_data : ∀ {x : PV}, PV.clean 0 0 x = true → PV.ren ρ κ x = x
  | .list sz xs t, h => by
    simp only [PV.clean, Bool.and_eq_true] at h
    rw [PV.ren, PVs.ren_data h.2]
    cases t <;> simp_all [Tk.ren]
  | .ref r o, h => by simp [PV.clean] at h
  | .elem x, h => by rw [PV.ren, PV.ren_data (by simpa [PV.clean] using h)]
  | .agg cs, h => by rw [PV.ren, PVs.ren_data (by simpa [PV.clean] using h)]
  | .tup cs, h => by rw [PV.ren, PVs.ren_data (by simpa [PV.clean] using h)]
  | .clo fn fs cs, h => by
    simp only [PV.clean, Bool.and_eq_true] at h
    rw [PV.ren, PVs.ren_data h.1, PVs.ren_data h.2]
  | .int k n, _ => rfl
  | .bool b, _ => rfl
  | .str l, _ => rfl
  | .val v, _ => rfl
theorem PVs.ren_data : ∀ {xs : List PV}, PVs.clean 0 0 xs = true → PVs.ren ρ κ xs = xs
  | [], _ => rfl
  | x :: xs, h => by
    simp only [PVs.clean, Bool.and_eq_true] at h
    rw [PVs.ren, PV.ren_data h.1, PVs.ren_data h.2]
end
end

/-- The ghost of a call that knows of some variables and objects alone. -/
def Gh.part (G : Gh) (st : St) (w : World) (ρ κ : List Nat) : Gh where
  w0 := w
  pub := fun b => ∃ i r : Nat, ρ[i]? = some r ∧ G.ref[r]? = some b
  pob := fun b => ∃ j k n c sz : Nat, κ[j]? = some k ∧ st.len[k]? = some n ∧ G.hist k n = some (b, c, sz)
  dat := G.dat
  ref := ρ.map fun r => G.ref.getD r 0
  hist := fun j n => match κ[j]? with
    | some k => G.hist k n
    | none => none
/-- How the call's variables and objects are called outside: new ones stand behind all that were there. -/
def out (ρ : List Nat) (n : Nat) (i : Nat) : Nat := if i < ρ.length then ρ.getD i 0 else n + (i - ρ.length)

mutual
theorem Rep.part' {G : Gh} {st : St} {w : World} {ρ κ : List Nat} {n m : Nat} : ∀ {y : PV} {v : Value}, Rep G y v → ∀ x, y = PV.ren (out ρ n) (out κ m) x → PV.clean ρ.length κ.length x = true → (∀ r ∈ ρ, r < G.ref.length) → Rep (G.part st w ρ κ) x v
  | _, _, .int k i, x, e, c, hρ => by cases x <;> simp [PV.ren] at e; obtain ⟨rfl, rfl⟩ := e; exact .int _ _
  | _, _, .bool b, x, e, c, hρ => by cases x <;> simp [PV.ren] at e; subst e; exact .bool _
  | _, _, .str l, x, e, c, hρ => by cases x <;> simp [PV.ren] at e; subst e; exact .str _
  | _, _, .val u, x, e, c, hρ => by cases x <;> simp [PV.ren] at e; subst e; exact .val _
  | _, _, .none sz t, x, e, c, hρ => by
    cases x <;> simp [PV.ren] at e
    rename_i sz' xs' t'
    obtain ⟨rfl, e, rfl⟩ := e
    have : xs' = [] := by cases xs' <;> simp [PVs.ren] at e ⊢
    subst this
    exact .none _ _
  | _, _, .list sz xs t b o cp vs h1 h2 h3 h4 h5 h6 h7, x, e, c, hρ => by
    have IH := fun zs e c => Reps.part' (st := st) (w := w) (ρ := ρ) (κ := κ) (n := n) (m := m) h5 zs e c hρ
    cases x <;> simp [PV.ren] at e
    rename_i sz' xs' t'
    obtain ⟨rfl, rfl, rfl⟩ := e
    simp only [PV.clean, Bool.and_eq_true] at c
    rw [PVs.ren_length] at h2 h7 ⊢
    rw [PVs.ren_cellsOf] at h4
    refine .list sz xs' t' b o cp vs (by rintro rfl; exact h1 rfl) h2 ?_ ?_ (IH _ (PVs.ren_cellsOf xs') (by rw [PVs.clean_cellsOf]; exact c.2)) h6 ?_
    · intro x hx
      have := h3 (PV.ren _ _ x) (by rw [PVs.ren_map]; exact List.mem_map_of_mem hx)
      rwa [PV.ren_cells, PVs.ren_length] at this
    · intro x hx
      have := h4 (PV.ren _ _ x) (by rw [PVs.ren_map]; exact List.mem_map_of_mem hx)
      rwa [PV.ren_isCell] at this
    · rintro k rfl
      have hk : k < κ.length := by simpa using c.1
      obtain ⟨h8, h9⟩ := h7 (out κ m k) rfl
      refine ⟨h8, ?_⟩
      simp only [Gh.part, List.getElem?_eq_getElem hk]
      simpa [out, hk, List.getD_eq_getElem?_getD] using h9
  | _, _, .ref r b o hb, x, e, c, hρ => by
    cases x <;> simp [PV.ren] at e
    rename_i r' o'
    obtain ⟨rfl, rfl⟩ := e
    have hr : r' < ρ.length := by simpa [PV.clean] using c
    refine .ref r' b o ?_
    simp only [out, hr, if_true, List.getD_eq_getElem?_getD, List.getElem?_eq_getElem hr, Option.getD_some] at hb
    simp [Gh.part, List.getElem?_map, List.getElem?_eq_getElem hr, hb]
  | _, _, .elem y b o vs h1 h2 h3, x, e, c, hρ => by
    have IH := fun zs e c => Reps.part' (st := st) (w := w) (ρ := ρ) (κ := κ) (n := n) (m := m) h2 zs e c hρ
    cases x <;> simp [PV.ren] at e
    rename_i x'
    subst e
    rw [PV.ren_cells] at h1
    refine .elem x' b o vs ?_ (IH _ (PV.ren_cells x') (by rw [PV.clean_cells]; simpa [PV.clean] using c)) h3
    intro y hy
    have := h1 (PV.ren _ _ y) (by rw [PVs.ren_map]; exact List.mem_map_of_mem hy)
    rwa [PV.ren_isCell] at this
  | _, _, .agg cs vs h1 h2, x, e, c, hρ => by
    have IH := fun zs e c => Reps.part' (st := st) (w := w) (ρ := ρ) (κ := κ) (n := n) (m := m) h2 zs e c hρ
    cases x <;> simp [PV.ren] at e
    rename_i cs'
    subst e
    refine .agg cs' vs ?_ (IH _ rfl (by simpa [PV.clean] using c))
    intro y hy
    have := h1 (PV.ren _ _ y) (by rw [PVs.ren_map]; exact List.mem_map_of_mem hy)
    rwa [PV.ren_isCell] at this
  | _, _, .tup cs vs h2, x, e, c, hρ => by
    have IH := fun zs e c => Reps.part' (st := st) (w := w) (ρ := ρ) (κ := κ) (n := n) (m := m) h2 zs e c hρ
    cases x <;> simp [PV.ren] at e
    subst e
    exact .tup _ vs (IH _ rfl (by simpa [PV.clean] using c))
  | _, _, .clo fn fs cs us vs h1 h2, x, e, c, hρ => by
    have IH1 := fun zs e c => Reps.part' (st := st) (w := w) (ρ := ρ) (κ := κ) (n := n) (m := m) h1 zs e c hρ
    have IH2 := fun zs e c => Reps.part' (st := st) (w := w) (ρ := ρ) (κ := κ) (n := n) (m := m) h2 zs e c hρ
    cases x <;> simp [PV.ren] at e
    obtain ⟨rfl, rfl, rfl⟩ := e
    simp only [PV.clean, Bool.and_eq_true] at c
    exact .clo _ _ _ us vs (IH1 _ rfl c.1) (IH2 _ rfl c.2)
theorem Reps.part' {G : Gh} {st : St} {w : World} {ρ κ : List Nat} {n m : Nat} : ∀ {ys : List PV} {vs : List Value}, Reps G ys vs → ∀ xs, ys = PVs.ren (out ρ n) (out κ m) xs → PVs.clean ρ.length κ.length xs = true → (∀ r ∈ ρ, r < G.ref.length) → Reps (G.part st w ρ κ) xs vs
  | _, _, .nil, xs, e, c, hρ => by cases xs <;> simp [PVs.ren] at e; exact .nil
  | _, _, .cons y v ys vs h1 h2, xs, e, c, hρ => by
    have IH1 := fun z e c => Rep.part' (st := st) (w := w) (ρ := ρ) (κ := κ) (n := n) (m := m) h1 z e c hρ
    have IH2 := fun zs e c => Reps.part' (st := st) (w := w) (ρ := ρ) (κ := κ) (n := n) (m := m) h2 zs e c hρ
    cases xs <;> simp [PVs.ren] at e
    obtain ⟨rfl, rfl⟩ := e
    simp only [PVs.clean, Bool.and_eq_true] at c
    exact .cons _ _ _ _ (IH1 _ rfl c.1) (IH2 _ rfl c.2)
end
theorem Reps.part {G : Gh} {st : St} {w : World} {ρ κ : List Nat} {n m : Nat} (hρ : ∀ r ∈ ρ, r < G.ref.length) {xs : List PV} {vs : List Value} (c : PVs.clean ρ.length κ.length xs = true) (h : Reps G (PVs.ren (out ρ n) (out κ m) xs) vs) : Reps (G.part st w ρ κ) xs vs :=
  Reps.part' h xs rfl c hρ
mutual
/-- The way back. -/
theorem Rep.back {G G' : Gh} {f g : Nat → Nat} (hd : G'.dat = G.dat) (hr : ∀ (r b : Nat), G.ref[r]? = some b → G'.ref[f r]? = some b) (hh : ∀ k i x, G.hist k i = some x → G'.hist (g k) i = some x) : ∀ {x : PV} {v : Value}, Rep G x v → Rep G' (PV.ren f g x) v
  | _, _, .int k n => .int k n
  | _, _, .bool b => .bool b
  | _, _, .str l => .str l
  | _, _, .none sz t => .none sz _
  | _, _, .list sz xs t b o c vs ht hc hs h1 hv hp hk => by
    rw [PV.ren]
    have := Rep.list (G := G') sz (PVs.ren f g xs) (t.ren g) b o c vs (by cases t <;> simp_all [Tk.ren]) (by rw [PVs.ren_length]; exact hc)
      (by
        intro y hy
        rw [PVs.ren_map] at hy
        obtain ⟨z, hz, rfl⟩ := List.mem_map.1 hy
        rw [PV.ren_cells, PVs.ren_length]
        exact hs z hz)
      (by
        rw [PVs.ren_cellsOf]
        intro y hy
        rw [PVs.ren_map] at hy
        obtain ⟨z, hz, rfl⟩ := List.mem_map.1 hy
        rw [PV.ren_isCell]
        exact h1 z hz)
      (by rw [PVs.ren_cellsOf]; exact Reps.back hd hr hh hv) (by rw [hd]; exact hp)
      (by
        intro k e
        cases t with
        | own k' =>
          injection e with e
          subst e
          rw [PVs.ren_length]
          exact ⟨(hk k' rfl).1, hh _ _ _ (hk k' rfl).2⟩
        | nil => cases e
        | no => cases e)
    rw [PVs.ren_length] at this
    exact this
  | _, _, .ref r b off h => .ref _ b off (hr r b h)
  | _, _, .elem x b o vs h1 hv hp => by
    rw [PV.ren]
    refine .elem _ b o vs ?_ (by rw [PV.ren_cells]; exact Reps.back hd hr hh hv) (by rw [hd]; exact hp)
    rw [PV.ren_cells]
    intro y hy
    rw [PVs.ren_map] at hy
    obtain ⟨z, hz, rfl⟩ := List.mem_map.1 hy
    rw [PV.ren_isCell]
    exact h1 z hz
  | _, _, .agg cs vs h1 hv => by
    rw [PV.ren]
    refine .agg _ vs ?_ (Reps.back hd hr hh hv)
    intro y hy
    rw [PVs.ren_map] at hy
    obtain ⟨z, hz, rfl⟩ := List.mem_map.1 hy
    rw [PV.ren_isCell]
    exact h1 z hz
  | _, _, .tup cs vs hv => .tup _ vs (Reps.back hd hr hh hv)
  | _, _, .clo fn fs cs us vs hu hv => .clo fn _ _ us vs (Reps.back hd hr hh hu) (Reps.back hd hr hh hv)
  | _, _, .val v => .val v
theorem Reps.back {G G' : Gh} {f g : Nat → Nat} (hd : G'.dat = G.dat) (hr : ∀ (r b : Nat), G.ref[r]? = some b → G'.ref[f r]? = some b) (hh : ∀ k i x, G.hist k i = some x → G'.hist (g k) i = some x) : ∀ {xs : List PV} {vs : List Value}, Reps G xs vs → Reps G' (PVs.ren f g xs) vs
  | _, _, .nil => .nil
  | _, _, .cons x v xs vs h t => .cons _ v _ vs (Rep.back hd hr hh h) (Reps.back hd hr hh t)
end

def setAll {α : Type} : List Nat → List α → List α → List α
  | r :: ρ, old, x :: new => setAll ρ (old.set r x) new
  | _, old, _ => old
def mergeL {α : Type} (ρ : List Nat) (old new : List α) : List α := setAll ρ old new ++ new.drop ρ.length
theorem setAll_length {α : Type} : ∀ (ρ : List Nat) (old new : List α), (setAll ρ old new).length = old.length
  | [], old, new => by simp [setAll]
  | r :: ρ, old, [] => by simp [setAll]
  | r :: ρ, old, x :: new => by rw [setAll, setAll_length]; simp
theorem setAll_other {α : Type} : ∀ (ρ : List Nat) (old new : List α) (k : Nat), k ∉ ρ → (setAll ρ old new)[k]? = old[k]?
  | [], old, new, k, _ => by simp [setAll]
  | r :: ρ, old, [], k, _ => by simp [setAll]
  | r :: ρ, old, x :: new, k, h => by
    simp only [List.mem_cons, not_or] at h
    rw [setAll, setAll_other ρ _ new k h.2, List.getElem?_set, if_neg (Ne.symm h.1)]
theorem setAll_at {α : Type} : ∀ (ρ : List Nat) (old new : List α) (i r : Nat) (x : α), ρ.Nodup → ρ[i]? = some r → new[i]? = some x → r < old.length → (setAll ρ old new)[r]? = some x
  | [], old, new, i, r, x, _, h, _, _ => by simp at h
  | q :: ρ, old, [], i, r, x, _, _, h, _ => by simp at h
  | q :: ρ, old, y :: new, 0, r, x, hn, h1, h2, h3 => by
    simp at h1 h2
    subst h1 h2
    rw [setAll, setAll_other ρ _ new q (List.nodup_cons.1 hn).1]
    simp [List.getElem?_set, h3]
  | q :: ρ, old, y :: new, i + 1, r, x, hn, h1, h2, h3 => by
    rw [setAll]
    exact setAll_at ρ _ new i r x (List.nodup_cons.1 hn).2 (by simpa using h1) (by simpa using h2) (by simpa using h3)
section
variable {α : Type} {ρ : List Nat} {old new : List α}
theorem mergeL_length (h : ρ.length ≤ new.length) : (mergeL ρ old new).length = old.length + (new.length - ρ.length) := by simp [mergeL, setAll_length]
theorem mergeL_at {i r : Nat} {x : α} (hn : ρ.Nodup) (h1 : ρ[i]? = some r) (h2 : new[i]? = some x) (h3 : r < old.length) : (mergeL ρ old new)[r]? = some x := by
  rw [mergeL, List.getElem?_append_left (by rw [setAll_length]; exact h3)]
  exact setAll_at ρ old new i r x hn h1 h2 h3
theorem mergeL_other {k : Nat} (h : k ∉ ρ) (hk : k < old.length) : (mergeL ρ old new)[k]? = old[k]? := by
  rw [mergeL, List.getElem?_append_left (by rw [setAll_length]; exact hk), setAll_other ρ old new k h]
theorem mergeL_new {k : Nat} (hk : old.length ≤ k) : (mergeL ρ old new)[k]? = new[ρ.length + (k - old.length)]? := by
  rw [mergeL, List.getElem?_append_right (by rw [setAll_length]; exact hk), setAll_length, List.getElem?_drop]
end
theorem idx_mem {κ : List Nat} {k : Nat} (h : k ∈ κ) : ∃ j : Nat, κ[j]? = some k := List.mem_iff_getElem?.1 h

/-- What the outside is after the call. -/
def Gh.outer (G G0 : Gh) (st : St) (ρ κ : List Nat) : Gh where
  w0 := G.w0
  pub := G.pub
  pob := G.pob
  dat := G0.dat
  ref := G.ref ++ G0.ref.drop ρ.length
  hist := fun k i => match κ.idxOf? k with
    | some j => G0.hist j i
    | none => if k < st.len.length then G.hist k i else G0.hist (κ.length + (k - st.len.length)) i
def merge (ρ κ : List Nat) (st st0 : St) : St :=
  ⟨mergeL ρ st.box (st0.box.map (PVs.ren (out ρ st.box.length) (out κ st.len.length))), mergeL κ st.len st0.len⟩

theorem idxOf_some {κ : List Nat} (hn : κ.Nodup) {j k : Nat} (h : κ[j]? = some k) : κ.idxOf? k = some j := by
  cases hi : κ.idxOf? k with
  | none =>
    rw [List.idxOf?_eq_none_iff] at hi
    exact absurd (List.mem_of_getElem? h) hi
  | some i =>
    have h2 : κ[i]? = some k := by
      have := List.of_findIdx?_eq_some (p := (· == k)) hi
      split at this
      · rename_i a ha
        simp at this
        rw [ha, this]
      · cases this
    rw [nodup_inj hn h2 h]
theorem idxOf_none {κ : List Nat} {k : Nat} (h : k ∉ κ) : κ.idxOf? k = none := List.idxOf?_eq_none_iff.2 h

theorem PC.frame {P : Program} {f : FuncId} {args0 : List PV} {st0 : St} {R : PV → St → Prop} (h : PC P f args0 st0 R) (ρ κ : List Nat) (st : St) (hρl : ρ.length = st0.box.length) (hκl : κ.length = st0.len.length) (hρn : ρ.Nodup) (hκn : κ.Nodup)
    (hbox : ∀ (i : Nat) cs, st0.box[i]? = some cs → ∃ r, ρ[i]? = some r ∧ st.box[r]? = some (PVs.ren (out ρ st.box.length) (out κ st.len.length) cs))
    (hlen : ∀ (j n : Nat), st0.len[j]? = some n → ∃ k, κ[j]? = some k ∧ st.len[k]? = some n)
    (hca : PVs.clean ρ.length κ.length args0 = true) (hcb : ∀ cs ∈ st0.box, PVs.clean ρ.length κ.length cs = true) :
    PC P f (PVs.ren (out ρ st.box.length) (out κ st.len.length) args0) st fun r st' => ∃ r0 st1, R r0 st1 ∧ st0.box.length ≤ st1.box.length ∧ st0.len.length ≤ st1.len.length ∧ r = PV.ren (out ρ st.box.length) (out κ st.len.length) r0 ∧ st' = merge ρ κ st st1 := by
  refine fun G w vs hi hv => ?_
  have hρlt : ∀ r ∈ ρ, r < G.ref.length := by
    intro r hr
    obtain ⟨i, hir⟩ := idx_mem hr
    have hil : i < st0.box.length := by rw [← hρl]; exact (List.getElem?_eq_some_iff.1 hir).1
    obtain ⟨r', h1, h2⟩ := hbox i _ (List.getElem?_eq_getElem hil)
    rw [hir] at h1
    injection h1 with h1
    subst h1
    rw [hi.rlen]
    exact (List.getElem?_eq_some_iff.1 h2).1
  have hκlt : ∀ k ∈ κ, k < st.len.length := by
    intro k hk
    obtain ⟨j, hj⟩ := idx_mem hk
    have hjl : j < st0.len.length := by rw [← hκl]; exact (List.getElem?_eq_some_iff.1 hj).1
    obtain ⟨k', h1, h2⟩ := hlen j _ (List.getElem?_eq_getElem hjl)
    rw [hj] at h1
    injection h1 with h1
    subst h1
    exact (List.getElem?_eq_some_iff.1 h2).1
  have hpref : ∀ (i b : Nat), (G.part st w ρ κ).ref[i]? = some b ↔ ∃ r, ρ[i]? = some r ∧ G.ref[r]? = some b := by
    intro i b
    simp only [Gh.part, List.getElem?_map]
    constructor
    · intro e
      cases hr : ρ[i]? with
      | none => rw [hr] at e; cases e
      | some r =>
        rw [hr] at e
        have hlt := hρlt r (List.mem_of_getElem? hr)
        simp [List.getD_eq_getElem?_getD, List.getElem?_eq_getElem hlt] at e
        exact ⟨r, rfl, by rw [List.getElem?_eq_getElem hlt, e]⟩
    · rintro ⟨r, h1, h2⟩
      simp [h1, List.getD_eq_getElem?_getD, h2]
  have hlen' : ∀ (j k : Nat), κ[j]? = some k → ∃ n, st0.len[j]? = some n ∧ st.len[k]? = some n := by
    intro j k e
    have hjl : j < st0.len.length := by rw [← hκl]; exact (List.getElem?_eq_some_iff.1 e).1
    obtain ⟨k', h1, h2⟩ := hlen j _ (List.getElem?_eq_getElem hjl)
    rw [e] at h1
    injection h1 with h1
    subst h1
    exact ⟨_, List.getElem?_eq_getElem hjl, h2⟩
  -- what the call knows
  have hi0 : Inv (G.part st w ρ κ) st0 w := by
    refine ⟨⟨rfl, rfl, rfl, Nat.le_refl _, fun _ _ _ _ => rfl⟩, hi.dat, by simp [Gh.part, hρl], ?_, ?_, ?_, ?_, ?_⟩
    · intro i b e
      obtain ⟨r, h1, h2⟩ := (hpref i b).1 e
      obtain ⟨h3, h4, cs, us, h5, h6, h7, h8⟩ := hi.box r b h2
      have hil : i < st0.box.length := by rw [← hρl]; exact (List.getElem?_eq_some_iff.1 h1).1
      obtain ⟨r', e1, e2⟩ := hbox i _ (List.getElem?_eq_getElem hil)
      rw [h1] at e1
      injection e1 with e1
      subst e1
      rw [h5] at e2
      injection e2 with e2
      subst e2
      refine ⟨.inl ⟨i, r, h1, h2⟩, h4, st0.box[i], us, List.getElem?_eq_getElem hil, h6, Reps.part hρlt (hcb _ (List.getElem_mem hil)) h7, ?_⟩
      intro x hx
      have := h8 (PV.ren _ _ x) (by rw [PVs.ren_map]; exact List.mem_map_of_mem hx)
      rwa [PV.ren_isCell] at this
    · show List.Pairwise (· ≠ ·) (G.part st w ρ κ).ref
      rw [List.pairwise_iff_getElem]
      intro i j hil hjl hij e
      have h1 := (hpref i _).1 (List.getElem?_eq_getElem hil)
      have h2 := (hpref j _).1 (List.getElem?_eq_getElem hjl)
      obtain ⟨r, h3, h4⟩ := h1
      obtain ⟨r', h5, h6⟩ := h2
      rw [e] at h4
      have := nodup_inj hi.inj h4 h6
      subst this
      have := nodup_inj hρn h3 h5
      omega
    · intro j n e b c sz e2
      simp only [Gh.part] at e2
      split at e2
      · rename_i k hk
        obtain ⟨n', h1, h2⟩ := hlen' j k hk
        rw [e] at h1
        injection h1 with h1
        subst h1
        obtain ⟨h3, h4, h5⟩ := hi.own k n h2 b c sz e2
        refine ⟨.inl ⟨j, k, n, c, sz, hk, h2, e2⟩, ?_, h5⟩
        intro hm
        obtain ⟨i, hi2⟩ := idx_mem hm
        obtain ⟨r, _, h7⟩ := (hpref i b).1 hi2
        exact h4 (List.mem_of_getElem? h7)
      · cases e2
    · intro j j' n n' b c sz c' sz' e e' e2 e2'
      simp only [Gh.part] at e2 e2'
      split at e2
      · rename_i k hk
        split at e2'
        · rename_i k' hk'
          obtain ⟨m, h1, h2⟩ := hlen' j k hk
          rw [e] at h1
          injection h1 with h1
          subst h1
          obtain ⟨m', h1', h2'⟩ := hlen' j' k' hk'
          rw [e'] at h1'
          injection h1' with h1'
          subst h1'
          have := hi.apart k k' n n' b c sz c' sz' h2 h2' e2 e2'
          subst this
          exact nodup_inj hκn hk hk'
        · cases e2'
      · cases e2
    · intro j n e
      simp only [Gh.part]
      split
      · rename_i k hk
        obtain ⟨m, h1, h2⟩ := hlen' j k hk
        exact hi.fresh k n fun q hq => by rw [h2] at hq; injection hq with hq; subst hq; exact e _ h1
      · rfl
  refine (h _ w vs hi0 (Reps.part hρlt hca hv)).mono ?_
  rintro v w' ⟨G0', r0, st1, hle0, hi1, hr0, hR, hlen1⟩
  have hbl1 : st0.box.length ≤ st1.box.length := by
    have h1 := hi1.rlen
    have h2 := hi0.rlen
    have h3 := hle0.ref.length_le
    omega
  have hρ1 : ρ.length ≤ (st1.box.map (PVs.ren (out ρ st.box.length) (out κ st.len.length))).length := by simp; omega
  have hκ1 : κ.length ≤ st1.len.length := by omega
  -- names outside
  have hκi : ∀ (j k : Nat), κ[j]? = some k → κ.idxOf? k = some j := fun j k e => idxOf_some hκn e
  have hhistκ : ∀ (j k i : Nat), κ[j]? = some k → (G.outer G0' st ρ κ).hist k i = G0'.hist j i := by
    intro j k i e
    simp only [Gh.outer, hκi j k e]
  have hhistO : ∀ (k i : Nat), k ∉ κ → k < st.len.length → (G.outer G0' st ρ κ).hist k i = G.hist k i := by
    intro k i hk hl
    simp only [Gh.outer, idxOf_none hk, if_pos hl]
  have hhistN : ∀ (k i : Nat), st.len.length ≤ k → (G.outer G0' st ρ κ).hist k i = G0'.hist (κ.length + (k - st.len.length)) i := by
    intro k i hl
    have hk : k ∉ κ := fun hm => by have := hκlt k hm; omega
    simp only [Gh.outer, idxOf_none hk]
    rw [if_neg (by omega)]
  have hrefOut : ∀ (r b : Nat), G0'.ref[r]? = some b → (G.outer G0' st ρ κ).ref[out ρ st.box.length r]? = some b := by
    intro r b e
    show (G.ref ++ G0'.ref.drop ρ.length)[_]? = _
    by_cases hr : r < ρ.length
    · have hr' : r < (G.part st w ρ κ).ref.length := by simpa [Gh.part] using hr
      have e2 : (G.part st w ρ κ).ref[r]? = some b := by
        rw [List.getElem?_eq_getElem hr']
        have := prefix_get hle0.ref (List.getElem?_eq_getElem hr')
        rw [e] at this
        exact this.symm
      obtain ⟨q, h1, h2⟩ := (hpref r b).1 e2
      have hq : out ρ st.box.length r = q := by simp only [out, hr, if_true, List.getD_eq_getElem?_getD, h1, Option.getD_some]
      rw [hq, List.getElem?_append_left (hρlt q (List.mem_of_getElem? h1))]
      exact h2
    · have ho : out ρ st.box.length r = st.box.length + (r - ρ.length) := by simp [out, hr]
      rw [ho, List.getElem?_append_right (by rw [hi.rlen]; omega), List.getElem?_drop, ← e]
      congr 1
      rw [hi.rlen]
      omega
  have hhistOut : ∀ (k i : Nat) x, G0'.hist k i = some x → (G.outer G0' st ρ κ).hist (out κ st.len.length k) i = some x := by
    intro k i x e
    by_cases hk : k < κ.length
    · have ho : out κ st.len.length k = κ[k] := by simp [out, hk, List.getD_eq_getElem?_getD]
      rw [ho, hhistκ k κ[k] i (List.getElem?_eq_getElem hk)]
      exact e
    · have ho : out κ st.len.length k = st.len.length + (k - κ.length) := by simp [out, hk]
      rw [ho, hhistN _ _ (by omega), ← e]
      congr 1
      omega
  have hback : ∀ {x : PV} {u : Value}, Rep G0' x u → Rep (G.outer G0' st ρ κ) (PV.ren (out ρ st.box.length) (out κ st.len.length) x) u := fun h => Rep.back (G := G0') (G' := G.outer G0' st ρ κ) rfl hrefOut hhistOut h
  have hbacks : ∀ {xs : List PV} {us : List Value}, Reps G0' xs us → Reps (G.outer G0' st ρ κ) (PVs.ren (out ρ st.box.length) (out κ st.len.length) xs) us := fun h => Reps.back (G := G0') (G' := G.outer G0' st ρ κ) rfl hrefOut hhistOut h
  -- what may have been written
  have hpub : ∀ b, (G.part st w ρ κ).pub b → b < w.heap.size ∧ (G.pub b ∨ G.w0.heap.size ≤ b) := by
    rintro b ⟨i, r, h1, h2⟩
    exact ⟨hi.ref_lt h2, (hi.box r b h2).1⟩
  have hpob : ∀ b, (G.part st w ρ κ).pob b → b < w.heap.size ∧ (G.pob b ∨ G.w0.heap.size ≤ b) ∧ b ∉ G.ref := by
    rintro b ⟨j, k, n, c, sz, h1, h2, h3⟩
    obtain ⟨h4, h5, _, us, h6, _⟩ := hi.own k n h2 b c sz h3
    exact ⟨row_lt h6, h4, h5⟩
  have hsame : ∀ b, b < w.heap.size → ¬ (G.part st w ρ κ).pub b → ¬ (G.part st w ρ κ).pob b → w'.heap[b]? = w.heap[b]? ∧ G0'.dat b = G.dat b := by
    intro b hb h1 h2
    have hw0 : G0'.w0 = w := hle0.w0
    refine ⟨?_, hle0.old b hb h1 h2⟩
    have := hi1.kept.block b (by rw [hw0]; exact hb) (by rw [hle0.pub]; exact h1) (by rw [hle0.pob]; exact h2)
    rw [hw0] at this
    exact this
  have hk1 : Kept w (G.part st w ρ κ).pub (G.part st w ρ κ).pob w' := by
    have := hi1.kept
    rw [hle0.w0, hle0.pub, hle0.pob] at this
    exact this
  have hle : G.le (G.outer G0' st ρ κ) := by
    refine ⟨rfl, rfl, rfl, hle0.dat, ?_, List.prefix_append _ _, ?_⟩
    · intro b hb h1 h2
      have hbw : b < w.heap.size := Nat.lt_of_lt_of_le hb hi.kept.size
      refine (hsame b hbw ?_ ?_).2
      · intro hp
        rcases (hpub b hp).2 with h | h
        · exact h1 h
        · exact absurd hb (by omega)
      · intro hp
        rcases (hpob b hp).2.1 with h | h
        · exact h2 h
        · exact absurd hb (by omega)
    · intro k n x e
      have hkl : k < st.len.length := by
        rcases Nat.lt_or_ge k st.len.length with h | h
        · exact h
        · rw [hi.fresh k n fun q hq => by rw [List.getElem?_eq_none h] at hq; cases hq] at e
          cases e
      by_cases hk : k ∈ κ
      · obtain ⟨j, hj⟩ := idx_mem hk
        rw [hhistκ j k n hj]
        refine hle0.hist j n x ?_
        simp only [Gh.part, hj]
        exact e
      · rw [hhistO k n hk hkl]
        exact e
  -- variables new inside are new outside
  have hnew : ∀ (i b : Nat), ρ.length ≤ i → G0'.ref[i]? = some b → w.heap.size ≤ b := by
    intro i b hil e
    obtain ⟨h1, _⟩ := hi1.box i b e
    rw [hle0.w0, hle0.pub] at h1
    rcases h1 with ⟨i', r, h2, h3⟩ | h1
    · have e2 := prefix_get hle0.ref ((hpref i' b).2 ⟨r, h2, h3⟩)
      have := nodup_inj hi1.inj e e2
      have := (List.getElem?_eq_some_iff.1 h2).1
      omega
    · exact h1
  have hrefA : ∀ (i r b : Nat), ρ[i]? = some r → G.ref[r]? = some b → G0'.ref[i]? = some b := fun i r b h1 h2 => prefix_get hle0.ref ((hpref i b).2 ⟨r, h1, h2⟩)
  have hdrop : ∀ b, b ∈ G0'.ref.drop ρ.length → ∃ i : Nat, ρ.length ≤ i ∧ G0'.ref[i]? = some b := by
    intro b hb
    obtain ⟨i, e⟩ := idx_mem hb
    rw [List.getElem?_drop] at e
    exact ⟨_, Nat.le_add_right _ _, e⟩
  have hrefnot : ∀ b, b < w.heap.size → b ∉ G.ref → b ∉ (G.outer G0' st ρ κ).ref := by
    intro b hb h1 hm
    rcases List.mem_append.1 hm with hm | hm
    · exact h1 hm
    · obtain ⟨i, h2, h3⟩ := hdrop b hm
      have := hnew i b h2 h3
      omega
  -- an object of the call's
  have hownIn : ∀ (j n b c sz : Nat), st1.len[j]? = some n → G0'.hist j n = some (b, c, sz) → (G.pob b ∨ G.w0.heap.size ≤ b) ∧ b ∉ (G.outer G0' st ρ κ).ref ∧ (G0'.dat b).length = n * sz ∧ ∃ us, World.row w' b us ∧ us.length = c * sz ∧ c ≤ maxLen := by
    intro j n b c sz e e2
    obtain ⟨h1, h2, h3⟩ := hi1.own j n e b c sz e2
    rw [hle0.w0, hle0.pob] at h1
    have h4 : (G.pob b ∨ G.w0.heap.size ≤ b) ∧ b ∉ G.ref := by
      rcases h1 with h1 | h1
      · exact ⟨(hpob b h1).2.1, (hpob b h1).2.2⟩
      · have h1' : w.heap.size ≤ b := h1
        refine ⟨.inr (Nat.le_trans hi.kept.size h1), fun hm => ?_⟩
        obtain ⟨r, hr⟩ := idx_mem hm
        have := hi.ref_lt hr
        omega
    refine ⟨h4.1, fun hm => ?_, h3⟩
    rcases List.mem_append.1 hm with hm | hm
    · exact h4.2 hm
    · exact h2 (List.mem_of_mem_drop hm)
  -- an object that the call does not know
  have hownOut : ∀ (k n b c sz : Nat), k ∉ κ → st.len[k]? = some n → G.hist k n = some (b, c, sz) → b < w.heap.size ∧ ¬ (G.part st w ρ κ).pub b ∧ ¬ (G.part st w ρ κ).pob b := by
    intro k n b c sz hk e e2
    obtain ⟨h1, h2, _, us, h3, _⟩ := hi.own k n e b c sz e2
    refine ⟨row_lt h3, ?_, ?_⟩
    · rintro ⟨i, r, _, h5⟩
      exact h2 (List.mem_of_getElem? h5)
    · rintro ⟨j, k', n', c', sz', h4, h5, h6⟩
      have := hi.apart k k' n n' b c sz c' sz' e h5 e2 h6
      subst this
      exact hk (List.mem_of_getElem? h4)
  -- the lengths, told apart
  have hlenO : ∀ (k n : Nat), (merge ρ κ st st1).len[k]? = some n → (∃ j : Nat, κ[j]? = some k ∧ st1.len[j]? = some n) ∨ (k ∉ κ ∧ k < st.len.length ∧ st.len[k]? = some n) ∨ (st.len.length ≤ k ∧ st1.len[κ.length + (k - st.len.length)]? = some n) := by
    intro k n e
    rcases Nat.lt_or_ge k st.len.length with hkl | hkl
    · by_cases hk : k ∈ κ
      · obtain ⟨j, hj⟩ := idx_mem hk
        have hj1 : j < st1.len.length := Nat.lt_of_lt_of_le (List.getElem?_eq_some_iff.1 hj).1 hκ1
        have := mergeL_at (old := st.len) hκn hj (List.getElem?_eq_getElem hj1) hkl
        have e' : (mergeL κ st.len st1.len)[k]? = some n := e
        rw [this] at e'
        injection e' with e'
        exact .inl ⟨j, hj, by rw [List.getElem?_eq_getElem hj1, e']⟩
      · have e' : (mergeL κ st.len st1.len)[k]? = some n := e
        rw [mergeL_other hk hkl] at e'
        exact .inr (.inl ⟨hk, hkl, e'⟩)
    · have e' : (mergeL κ st.len st1.len)[k]? = some n := e
      rw [mergeL_new hkl] at e'
      exact .inr (.inr ⟨hkl, e'⟩)
  have hinv : Inv (G.outer G0' st ρ κ) (merge ρ κ st st1) w' := by
    refine ⟨⟨hk1.os.trans hi.kept.os, hk1.tape.trans hi.kept.tape, hk1.output.trans hi.kept.output, Nat.le_trans hi.kept.size hk1.size, ?_⟩, hi1.dat, ?_, ?_, ?_, ?_, ?_, ?_⟩
    · intro b hb h1 h2
      have hb' : b < G.w0.heap.size := hb
      have hbw : b < w.heap.size := Nat.lt_of_lt_of_le hb hi.kept.size
      have := (hsame b hbw (fun hp => by
        rcases (hpub b hp).2 with h | h
        · exact h1 h
        · omega) (fun hp => by
        rcases (hpob b hp).2.1 with h | h
        · exact h2 h
        · omega)).1
      rw [this]
      exact hi.kept.block b hb h1 h2
    · show (G.ref ++ G0'.ref.drop ρ.length).length = (mergeL ρ st.box _).length
      rw [mergeL_length hρ1, List.length_append, List.length_drop, hi.rlen, hi1.rlen]
      simp
    · intro r b e
      rcases Nat.lt_or_ge r G.ref.length with hr | hr
      · have e' : G.ref[r]? = some b := by
          have e'' : (G.ref ++ G0'.ref.drop ρ.length)[r]? = some b := e
          rwa [List.getElem?_append_left hr] at e''
        have hbw := hi.ref_lt e'
        by_cases hrm : r ∈ ρ
        · obtain ⟨i, hir⟩ := idx_mem hrm
          obtain ⟨_, h2, cs, us, h3, h4, h5, h6⟩ := hi1.box i b (hrefA i r b hir e')
          refine ⟨(hi.box r b e').1, h2, PVs.ren _ _ cs, us, ?_, h4, hbacks h5, ?_⟩
          · exact mergeL_at hρn hir (by rw [List.getElem?_map, h3]; rfl) (by rw [← hi.rlen]; exact hr)
          · intro x hx
            rw [PVs.ren_map] at hx
            obtain ⟨z, hz, rfl⟩ := List.mem_map.1 hx
            rw [PV.ren_isCell]
            exact h6 z hz
        · obtain ⟨h1, h2, cs, us, h3, ⟨T, h4⟩, h5, h6⟩ := hi.box r b e'
          have hs := hsame b hbw (by
            rintro ⟨i, r', h7, h8⟩
            have := nodup_inj hi.inj h8 e'
            subst this
            exact hrm (List.mem_of_getElem? h7)) (fun hp => (hpob b hp).2.2 (List.mem_of_getElem? e'))
          refine ⟨h1, by show G0'.dat b = []; rw [hs.2]; exact h2, cs, us, ?_, ⟨T, by rw [hs.1]; exact h4⟩, h5.mono hle, h6⟩
          show (mergeL ρ st.box _)[r]? = _
          rw [mergeL_other hrm (by rw [← hi.rlen]; exact hr)]
          exact h3
      · have e' : G0'.ref[ρ.length + (r - G.ref.length)]? = some b := by
          have e'' : (G.ref ++ G0'.ref.drop ρ.length)[r]? = some b := e
          rwa [List.getElem?_append_right hr, List.getElem?_drop] at e''
        obtain ⟨_, h2, cs, us, h3, h4, h5, h6⟩ := hi1.box _ b e'
        refine ⟨.inr (Nat.le_trans hi.kept.size (hnew _ b (by omega) e')), h2, PVs.ren _ _ cs, us, ?_, h4, hbacks h5, ?_⟩
        · show (mergeL ρ st.box _)[r]? = _
          rw [mergeL_new (by rw [← hi.rlen]; exact hr), ← hi.rlen, List.getElem?_map, h3]
          rfl
        · intro x hx
          rw [PVs.ren_map] at hx
          obtain ⟨z, hz, rfl⟩ := List.mem_map.1 hx
          rw [PV.ren_isCell]
          exact h6 z hz
    · show (G.ref ++ G0'.ref.drop ρ.length).Nodup
      rw [List.nodup_append]
      refine ⟨hi.inj, (List.drop_sublist _ _).nodup hi1.inj, ?_⟩
      rintro b hb b' hb' rfl
      obtain ⟨r, hr⟩ := idx_mem hb
      obtain ⟨i, h1, h2⟩ := hdrop b hb'
      have h3 := hi.ref_lt hr
      have h4 := hnew i b h1 h2
      omega
    · intro k n e b c sz e2
      rcases hlenO k n e with ⟨j, hj, e3⟩ | ⟨hk, hkl, e3⟩ | ⟨hkl, e3⟩
      · rw [hhistκ j k n hj] at e2
        exact hownIn j n b c sz e3 e2
      · rw [hhistO k n hk hkl] at e2
        obtain ⟨h1, h2, h3⟩ := hownOut k n b c sz hk e3 e2
        obtain ⟨h4, h5, h6, us, ⟨T, h7⟩, h8⟩ := hi.own k n e3 b c sz e2
        have hs := hsame b h1 h2 h3
        exact ⟨h4, hrefnot b h1 h5, by show (G0'.dat b).length = _; rw [hs.2]; exact h6, us, ⟨T, by rw [hs.1]; exact h7⟩, h8⟩
      · rw [hhistN k n hkl] at e2
        exact hownIn _ n b c sz e3 e2
    · have hcross : ∀ (k n b c sz j n' c' sz' : Nat), k ∉ κ → st.len[k]? = some n → G.hist k n = some (b, c, sz) → st1.len[j]? = some n' → G0'.hist j n' = some (b, c', sz') → False := by
        intro k n b c sz j n' c' sz' hk e e2 e3 e4
        obtain ⟨h1, h2, h3⟩ := hownOut k n b c sz hk e e2
        obtain ⟨h4, _⟩ := hi1.own j n' e3 b c' sz' e4
        rw [hle0.w0, hle0.pob] at h4
        rcases h4 with h4 | h4
        · exact h3 h4
        · have h4' : w.heap.size ≤ b := h4
          omega
      intro k k' n n' b c sz c' sz' e e' e2 e2'
      rcases hlenO k n e with ⟨j, hj, e3⟩ | ⟨hk, hkl, e3⟩ | ⟨hkl, e3⟩ <;> rcases hlenO k' n' e' with ⟨j', hj', e3'⟩ | ⟨hk', hkl', e3'⟩ | ⟨hkl', e3'⟩
      · rw [hhistκ j k n hj] at e2
        rw [hhistκ j' k' n' hj'] at e2'
        have := hi1.apart j j' n n' b c sz c' sz' e3 e3' e2 e2'
        subst this
        rw [hj] at hj'
        injection hj'
      · rw [hhistκ j k n hj] at e2
        rw [hhistO k' n' hk' hkl'] at e2'
        exact (hcross k' n' b c' sz' j n c sz hk' e3' e2' e3 e2).elim
      · rw [hhistκ j k n hj] at e2
        rw [hhistN k' n' hkl'] at e2'
        have := hi1.apart j _ n n' b c sz c' sz' e3 e3' e2 e2'
        have := (List.getElem?_eq_some_iff.1 hj).1
        omega
      · rw [hhistO k n hk hkl] at e2
        rw [hhistκ j' k' n' hj'] at e2'
        exact (hcross k n b c sz j' n' c' sz' hk e3 e2 e3' e2').elim
      · rw [hhistO k n hk hkl] at e2
        rw [hhistO k' n' hk' hkl'] at e2'
        exact hi.apart k k' n n' b c sz c' sz' e3 e3' e2 e2'
      · rw [hhistO k n hk hkl] at e2
        rw [hhistN k' n' hkl'] at e2'
        exact (hcross k n b c sz _ n' c' sz' hk e3 e2 e3' e2').elim
      · rw [hhistN k n hkl] at e2
        rw [hhistκ j' k' n' hj'] at e2'
        have := hi1.apart _ j' n n' b c sz c' sz' e3 e3' e2 e2'
        have := (List.getElem?_eq_some_iff.1 hj').1
        omega
      · rw [hhistN k n hkl] at e2
        rw [hhistO k' n' hk' hkl'] at e2'
        exact (hcross k' n' b c' sz' _ n c sz hk' e3' e2' e3 e2).elim
      · rw [hhistN k n hkl] at e2
        rw [hhistN k' n' hkl'] at e2'
        have := hi1.apart _ _ n n' b c sz c' sz' e3 e3' e2 e2'
        omega
    · intro k n e
      rcases Nat.lt_or_ge k st.len.length with hkl | hkl
      · by_cases hk : k ∈ κ
        · obtain ⟨j, hj⟩ := idx_mem hk
          rw [hhistκ j k n hj]
          refine hi1.fresh j n fun q hq => e q ?_
          exact mergeL_at hκn hj hq hkl
        · rw [hhistO k n hk hkl]
          refine hi.fresh k n fun q hq => e q ?_
          show (mergeL κ st.len st1.len)[k]? = _
          rw [mergeL_other hk hkl]
          exact hq
      · rw [hhistN k n hkl]
        refine hi1.fresh _ n fun q hq => e q ?_
        show (mergeL κ st.len st1.len)[k]? = _
        rw [mergeL_new hkl]
        exact hq
  refine ⟨_, _, _, hle, hinv, hback hr0, ⟨r0, st1, hR, hbl1, by omega, rfl, rfl⟩, ?_⟩
  show st.len.length ≤ (mergeL κ st.len st1.len).length
  rw [mergeL_length hκ1]
  omega
end Go.Proofs.Ytolhbjfaahcekaa
end
section
/- How a contract is used at a call. -/
set_option linter.unusedVariables false
set_option linter.unusedSimpArgs false
namespace Go.Proofs.Ytolhbjfaahcekaa

mutual
theorem PV.clean_data {n m : Nat} : ∀ {x : PV}, PV.clean 0 0 x = true → PV.clean n m x = true
  | .list sz xs t, h => by
    simp only [PV.clean, Bool.and_eq_true] at h ⊢
    refine ⟨?_, PVs.clean_data h.2⟩
    cases t <;> simp_all
  | .ref r o, h => by simp [PV.clean] at h
  | .elem x, h => by simp only [PV.clean] at h ⊢; exact PV.clean_data h
  | .agg cs, h => by simp only [PV.clean] at h ⊢; exact PVs.clean_data h
  | .tup cs, h => by simp only [PV.clean] at h ⊢; exact PVs.clean_data h
  | .clo fn fs cs, h => by
    simp only [PV.clean, Bool.and_eq_true] at h ⊢
    exact ⟨PVs.clean_data h.1, PVs.clean_data h.2⟩
  | .int k n, _ => rfl
  | .bool b, _ => rfl
  | .str l, _ => rfl
  | .val v, _ => rfl
theorem PVs.clean_data {n m : Nat} : ∀ {xs : List PV}, PVs.clean 0 0 xs = true → PVs.clean n m xs = true
  | [], _ => rfl
  | x :: xs, h => by
    simp only [PVs.clean, Bool.and_eq_true] at h ⊢
    exact ⟨PV.clean_data h.1, PVs.clean_data h.2⟩
end

section
variable {P : Program} {f : FuncId}
/-- The variables and objects that a call is told of, outside. -/
def BoxesAt (st : St) (ρ κ : Nat → Nat) : List Nat → List (List PV) → Prop
  | [], [] => True
  | r :: rs, cs :: css => st.box[r]? = some (PVs.ren ρ κ cs) ∧ BoxesAt st ρ κ rs css
  | _, _ => False
def LensAt (st : St) : List Nat → List Nat → Prop
  | [], [] => True
  | k :: ks, n :: ns => st.len[k]? = some n ∧ LensAt st ks ns
  | _, _ => False
theorem BoxesAt.len {st : St} {ρ κ : Nat → Nat} : ∀ {rs : List Nat} {css : List (List PV)}, BoxesAt st ρ κ rs css → rs.length = css.length
  | [], [], _ => rfl
  | _ :: _, _ :: _, h => by simp [BoxesAt.len h.2]
  | [], _ :: _, h => h.elim
  | _ :: _, [], h => h.elim
theorem BoxesAt.get {st : St} {ρ κ : Nat → Nat} : ∀ {rs : List Nat} {css : List (List PV)}, BoxesAt st ρ κ rs css → ∀ (i : Nat) cs, css[i]? = some cs → ∃ r, rs[i]? = some r ∧ st.box[r]? = some (PVs.ren ρ κ cs)
  | [], [], _, i, cs, e => by simp at e
  | r :: rs, c :: css, h, 0, cs, e => by simp at e; subst e; exact ⟨r, rfl, h.1⟩
  | r :: rs, c :: css, h, i + 1, cs, e => by
    obtain ⟨q, h1, h2⟩ := BoxesAt.get h.2 i cs (by simpa using e)
    exact ⟨q, by simpa using h1, h2⟩
  | [], _ :: _, h, _, _, _ => h.elim
  | _ :: _, [], h, _, _, _ => h.elim
theorem LensAt.len {st : St} : ∀ {ks ns : List Nat}, LensAt st ks ns → ks.length = ns.length
  | [], [], _ => rfl
  | _ :: _, _ :: _, h => by simp [LensAt.len h.2]
  | [], _ :: _, h => h.elim
  | _ :: _, [], h => h.elim
theorem LensAt.get {st : St} : ∀ {ks ns : List Nat}, LensAt st ks ns → ∀ (j n : Nat), ns[j]? = some n → ∃ k, ks[j]? = some k ∧ st.len[k]? = some n
  | [], [], _, j, n, e => by simp at e
  | k :: ks, m :: ns, h, 0, n, e => by simp at e; subst e; exact ⟨k, rfl, h.1⟩
  | k :: ks, m :: ns, h, j + 1, n, e => by
    obtain ⟨q, h1, h2⟩ := LensAt.get h.2 j n (by simpa using e)
    exact ⟨q, by simpa using h1, h2⟩
  | [], _ :: _, h, _, _, _ => h.elim
  | _ :: _, [], h, _, _, _ => h.elim
theorem nodup_of {xs : List Nat} (h : decide xs.Nodup = true) : xs.Nodup := of_decide_eq_true h
/-- A contract at a call: ρ, κ: where the contract's variables and objects lie here. -/
theorem PC.use {args0 args : List PV} {st0 st : St} {R K : PV → St → Prop} (h : PC P f args0 st0 R) (ρ κ : List Nat) (hρ : decide ρ.Nodup = true) (hκ : decide κ.Nodup = true)
    (hb : BoxesAt st (out ρ st.box.length) (out κ st.len.length) ρ st0.box) (hl : LensAt st κ st0.len)
    (ha : Weaks args (PVs.ren (out ρ st.box.length) (out κ st.len.length) args0)) (hca : PVs.clean ρ.length κ.length args0 = true) (hcb : ∀ cs ∈ st0.box, PVs.clean ρ.length κ.length cs = true)
    (hk : ∀ r0 st1, R r0 st1 → st0.box.length ≤ st1.box.length → st0.len.length ≤ st1.len.length → K (PV.ren (out ρ st.box.length) (out κ st.len.length) r0) (merge ρ κ st st1)) : PC P f args st K := by
  refine PC.weak ((PC.frame h ρ κ st hb.len hl.len (nodup_of hρ) (nodup_of hκ) hb.get hl.get hca hcb).mono ?_) ha
  rintro r st' ⟨r0, st1, h1, h2, h3, rfl, rfl⟩
  exact hk r0 st1 h1 h2 h3
/-- A function that makes a value of values. -/
def Pure (P : Program) (f : FuncId) (args : List PV) (x : PV) : Prop := PC P f args ⟨[], []⟩ fun r st' => r = x ∧ st' = ⟨[], []⟩
theorem Pure.use {args0 args : List PV} {x : PV} (h : Pure P f args0 x) {st : St} {K : PV → St → Prop} (ha : Weaks args args0) (hc : PVs.clean 0 0 args0 = true) (hx : PV.clean 0 0 x = true) (hk : K x st) : PC P f args st K := by
  refine PC.use h [] [] rfl rfl trivial trivial (by rw [PVs.ren_data hc]; exact ha) hc (by simp) ?_
  rintro r0 st1 ⟨rfl, rfl⟩ _ _
  rw [PV.ren_data hx]
  simpa [merge, mergeL, setAll] using hk
/-- A function that is told of one variable, of values alone. -/
def One (P : Program) (f : FuncId) (args : List PV) (cs : List PV) (R : PV → List PV → Prop) : Prop := PC P f args ⟨[cs], []⟩ fun r st' => ∃ cs', st' = ⟨[cs'], []⟩ ∧ R r cs' ∧ PV.clean 0 0 r = true ∧ PVs.clean 0 0 cs' = true
theorem One.use {ags args : List PV} {cs : List PV} {R : PV → List PV → Prop} (h : One P f (.ref 0 0 :: ags) cs R) {st : St} {K : PV → St → Prop} (r : Nat) (hb : st.box[r]? = some cs) (ha : Weaks args ags) (hca : PVs.clean 0 0 ags = true) (hcc : PVs.clean 0 0 cs = true)
    (hk : ∀ x cs', R x cs' → PV.clean 0 0 x = true → PVs.clean 0 0 cs' = true → K x { st with box := st.box.set r cs' }) : PC P f (.ref r 0 :: args) st K := by
  refine PC.use h [r] [] (by simp) rfl ⟨by rw [PVs.ren_data hcc]; exact hb, trivial⟩ trivial ?_ ?_ ?_ ?_
  · rw [PVs.ren, PVs.ren_data hca]
    exact .cons (by simp [PV.ren, out]) ha
  · simp only [PVs.clean, PV.clean, List.length_cons, List.length_nil, PVs.clean_data hca]
    rfl
  · intro cs' hc
    simp at hc
    subst hc
    exact PVs.clean_data hcc
  · rintro r0 st1 ⟨cs', rfl, h1, h2, h3⟩ _ _
    rw [PV.ren_data h2]
    have := hk r0 cs' h1 h2 h3
    simpa [merge, mergeL, setAll, PVs.ren_data h3] using this

theorem One.fin {tt : TTab} {rs : List ResultVar} {cs cs' : List PV} {rest : List (List PV)} {len : List Nat} {R : PV → List PV → Prop} {env : Env} {xs : List PV} {e : Exit} (he : e = .ret ∨ e = .normal) (hr : resAll tt env ⟨cs' :: rest, len⟩ rs = some xs) (hR : R (resPV xs) cs') (hx : PV.clean 0 0 (resPV xs) = true)
    (hc : PVs.clean 0 0 cs' = true) (hcell : cs'.all PV.isCell = true) : Ends tt rs ⟨[cs], []⟩ (fun r st' => ∃ cs', st' = ⟨[cs'], []⟩ ∧ R r cs' ∧ PV.clean 0 0 r = true ∧ PVs.clean 0 0 cs' = true) e env ⟨cs' :: rest, len⟩ := by
  refine ⟨he, xs, resPV xs, ⟨[cs'], []⟩, hr, .refl _, ⟨?_, by simp, ?_⟩, by simp, by simp, PV.clean_data hx, cs', rfl, hR, hx, hc⟩
  · simp only [List.length_cons, List.length_nil, List.take_succ_cons, List.take_zero, boxes_cons, boxes_nil, and_true]
    exact ⟨Weaks.refl _, by simpa using hcell⟩
  · intro c h
    simp at h
    subst h
    exact PVs.clean_data hc
theorem One.ret {tt : TTab} {rs : List ResultVar} {cs cs' : List PV} {rest : List (List PV)} {len : List Nat} {R : PV → List PV → Prop} {env : Env} {xs : List PV} (hr : resAll tt env ⟨cs' :: rest, len⟩ rs = some xs) (hR : R (resPV xs) cs') (hx : PV.clean 0 0 (resPV xs) = true)
    (hc : PVs.clean 0 0 cs' = true) (hcell : cs'.all PV.isCell = true) : Ends tt rs ⟨[cs], []⟩ (fun r st' => ∃ cs', st' = ⟨[cs'], []⟩ ∧ R r cs' ∧ PV.clean 0 0 r = true ∧ PVs.clean 0 0 cs' = true) .ret env ⟨cs' :: rest, len⟩ := One.fin (.inl rfl) hr hR hx hc hcell
theorem One.done {tt : TTab} {rs : List ResultVar} {cs cs' : List PV} {rest : List (List PV)} {len : List Nat} {R : PV → List PV → Prop} {env : Env} {xs : List PV} (hr : resAll tt env ⟨cs' :: rest, len⟩ rs = some xs) (hR : R (resPV xs) cs') (hx : PV.clean 0 0 (resPV xs) = true)
    (hc : PVs.clean 0 0 cs' = true) (hcell : cs'.all PV.isCell = true) : Ends tt rs ⟨[cs], []⟩ (fun r st' => ∃ cs', st' = ⟨[cs'], []⟩ ∧ R r cs' ∧ PV.clean 0 0 r = true ∧ PVs.clean 0 0 cs' = true) .normal env ⟨cs' :: rest, len⟩ := One.fin (.inr rfl) hr hR hx hc hcell
/-- A function of values ends. -/
theorem Pure.fin {tt : TTab} {rs : List ResultVar} {x : PV} {env : Env} {st : St} {xs : List PV} {e : Exit} (he : e = .ret ∨ e = .normal) (hr : resAll tt env st rs = some xs) (hR : resPV xs = x) (hx : PV.clean 0 0 x = true) :
    Ends tt rs ⟨[], []⟩ (fun r st' => r = x ∧ st' = ⟨[], []⟩) e env st :=
  ⟨he, xs, x, ⟨[], []⟩, hr, by rw [hR]; exact .refl _, ⟨by simp, by simp, by simp⟩, by simp, by simp, hx, rfl, rfl⟩
theorem Pure.ret {tt : TTab} {rs : List ResultVar} {x : PV} {env : Env} {st : St} {xs : List PV} (hr : resAll tt env st rs = some xs) (hR : resPV xs = x) (hx : PV.clean 0 0 x = true) :
    Ends tt rs ⟨[], []⟩ (fun r st' => r = x ∧ st' = ⟨[], []⟩) .ret env st := Pure.fin (.inl rfl) hr hR hx
theorem Pure.done {tt : TTab} {rs : List ResultVar} {x : PV} {env : Env} {st : St} {xs : List PV} (hr : resAll tt env st rs = some xs) (hR : resPV xs = x) (hx : PV.clean 0 0 x = true) :
    Ends tt rs ⟨[], []⟩ (fun r st' => r = x ∧ st' = ⟨[], []⟩) .normal env st := Pure.fin (.inr rfl) hr hR hx
end
end Go.Proofs.Ytolhbjfaahcekaa
end
section
/- The rules as a function: what it gives, the machine comes to. -/
set_option linter.unusedVariables false
set_option linter.unusedSimpArgs false
namespace Go.Proofs.Ytolhbjfaahcekaa

theorem cells_int (k : IntKind) (n : Int) : PV.cells (.int k n) = [.int k n] := rfl
theorem isAgg_int (k : IntKind) (n : Int) : PV.isAgg (.int k n) = false := rfl
theorem isCell_int (k : IntKind) (n : Int) : PV.isCell (.int k n) = true := rfl
theorem cells_bool (b : Bool) : PV.cells (.bool b) = [.bool b] := rfl
theorem isAgg_bool (b : Bool) : PV.isAgg (.bool b) = false := rfl
theorem isCell_bool (b : Bool) : PV.isCell (.bool b) = true := rfl
theorem cells_str (l : List UInt8) : PV.cells (.str l) = [.str l] := rfl
theorem isAgg_str (l : List UInt8) : PV.isAgg (.str l) = false := rfl
theorem isCell_str (l : List UInt8) : PV.isCell (.str l) = true := rfl
theorem cells_list (sz : Nat) (xs : List PV) (t : Tk) : PV.cells (.list sz xs t) = [.list sz xs t] := rfl
theorem isAgg_list (sz : Nat) (xs : List PV) (t : Tk) : PV.isAgg (.list sz xs t) = false := rfl
theorem isCell_list (sz : Nat) (xs : List PV) (t : Tk) : PV.isCell (.list sz xs t) = true := rfl
theorem cells_ref (r o : Nat) : PV.cells (.ref r o) = [.ref r o] := rfl
theorem isAgg_ref (r o : Nat) : PV.isAgg (.ref r o) = false := rfl
theorem isCell_ref (r o : Nat) : PV.isCell (.ref r o) = true := rfl
theorem cells_elem (x : PV) : PV.cells (.elem x) = [.elem x] := rfl
theorem isAgg_elem (x : PV) : PV.isAgg (.elem x) = false := rfl
theorem isCell_elem (x : PV) : PV.isCell (.elem x) = true := rfl
theorem cells_agg (cs : List PV) : PV.cells (.agg cs) = cs := rfl
theorem isAgg_agg (cs : List PV) : PV.isAgg (.agg cs) = true := rfl
theorem isCell_agg (cs : List PV) : PV.isCell (.agg cs) = false := rfl
theorem cells_tup (cs : List PV) : PV.cells (.tup cs) = [.tup cs] := rfl
theorem isAgg_tup (cs : List PV) : PV.isAgg (.tup cs) = false := rfl
theorem isCell_tup (cs : List PV) : PV.isCell (.tup cs) = false := rfl
theorem cells_clo (f : Fn) (a b : List PV) : PV.cells (.clo f a b) = [.clo f a b] := rfl
theorem isAgg_clo (f : Fn) (a b : List PV) : PV.isAgg (.clo f a b) = false := rfl
theorem isCell_clo (f : Fn) (a b : List PV) : PV.isCell (.clo f a b) = true := rfl
theorem cells_val (v : Value) : PV.cells (.val v) = [.val v] := rfl
theorem isAgg_val (v : Value) : PV.isAgg (.val v) = false := rfl
theorem isCell_val (v : Value) : PV.isCell (.val v) = v.oneCell' := rfl
def eg : Env → Nat → Option PV
  | [], _ => none
  | (j, x) :: r, i => bif i == j then some x else eg r i
theorem eg_eq : ∀ (env : Env) (i : Nat), eg env i = eget env i
  | [], _ => rfl
  | (j, x) :: r, i => by
    simp only [eg, eget, eg_eq r i]
    by_cases h : i = j
    · subst h; simp
    · have : (i == j) = false := by simpa using h
      simp [this, h]
def vl (env : Env) : Operand → Option PV
  | .tmp t => eg env t
  | .const v => some (ofC v)
  | .func f => some (.clo (.func f) [] [])
  | .global _ => none
theorem vl_eq (env : Env) (o : Operand) : vl env o = ev env o := by cases o <;> simp [vl, ev, eg_eq]
def vls (env : Env) : List Operand → Option (List PV)
  | [] => some []
  | o :: os => match vl env o with
    | some x => match vls env os with
      | some xs => some (x :: xs)
      | none => none
    | none => none
theorem vls_eq (env : Env) : ∀ os, vls env os = evs env os
  | [] => rfl
  | o :: os => by
    simp only [vls, evs, vl_eq, vls_eq env os]
    cases ev env o <;> cases evs env os <;> rfl
def vlParts (env : Env) : List (Nat × Operand) → Option (List (Nat × PV))
  | [] => some []
  | (i, o) :: os => match vl env o with
    | some x => match vlParts env os with
      | some xs => some ((i, x) :: xs)
      | none => none
    | none => none
theorem vlParts_eq (env : Env) : ∀ os, vlParts env os = evParts env os
  | [] => rfl
  | (i, o) :: os => by
    simp only [vlParts, evParts, vl_eq, vlParts_eq env os]
    cases ev env o <;> cases evParts env os <;> rfl
def vlo (env : Env) : Option Operand → Option (Option PV)
  | none => some none
  | some o => match vl env o with
    | some x => some (some x)
    | none => none
theorem vlo_eq (env : Env) (o : Option Operand) : vlo env o = evo env o := by
  cases o with
  | none => rfl
  | some o => simp only [vlo, evo, vl_eq]; cases ev env o <;> rfl

def fBin (op : BinOp) (x y : PV) : Option PV :=
  match x, y with
  | .int k a, .int k' b =>
    match op with
    | .shl => if 0 ≤ b then some (.int k (k.wrap (a * 2 ^ min b.toNat k.bits))) else none
    | .shr => if 0 ≤ b then some (.int k (a.fdiv (2 ^ min b.toNat k.bits))) else none
    | .add => if k = k' then some (.int k (k.wrap (a + b))) else none
    | .sub => if k = k' then some (.int k (k.wrap (a - b))) else none
    | .mul => if k = k' then some (.int k (k.wrap (a * b))) else none
    | .quo => if k = k' then (if b ≠ 0 then some (.int k (k.wrap (a.tdiv b))) else none) else none
    | .rem => if k = k' then (if b ≠ 0 then some (.int k (a.tmod b)) else none) else none
    | .eql => if k = k' then some (.bool (a == b)) else none
    | .neq => if k = k' then some (.bool (a != b)) else none
    | .lss => if k = k' then some (.bool (decide (a < b))) else none
    | .leq => if k = k' then some (.bool (decide (a ≤ b))) else none
    | .gtr => if k = k' then some (.bool (decide (a > b))) else none
    | .geq => if k = k' then some (.bool (decide (a ≥ b))) else none
    | op => if k = k' then some (.int k (bitsPV op k a b)) else none
  | .str a, .str b =>
    match op with
    | .add => if a.length + b.length ≤ 9223372036854775807 then some (.str (a ++ b)) else none
    | .eql => some (.bool (a == b))
    | .neq => some (.bool (!(a == b)))
    | .lss => some (.bool (Op.bytesLess a b))
    | .leq => some (.bool (Op.bytesLess a b || a == b))
    | .gtr => some (.bool (!(Op.bytesLess a b || a == b)))
    | .geq => some (.bool (!(Op.bytesLess a b)))
    | _ => none
  | _, _ => none
theorem fBin_ok {op : BinOp} {x y r : PV} (h : fBin op x y = some r) {K : PV → Prop} (hk : K r) : pBin op x y K := by
  unfold fBin at h
  unfold pBin
  split at h
  · cases op <;> simp only at h ⊢ <;> (repeat' split at h) <;> first
      | (injection h with h; subst h; first | exact ⟨by assumption, hk⟩ | exact ⟨by assumption, by assumption, hk⟩)
      | cases h
  · cases op <;> simp only at h ⊢ <;> (repeat' split at h) <;> first
      | (injection h with h; subst h; first | exact hk | exact ⟨by assumption, hk⟩)
      | cases h
  · cases h
def fCut (x : PV) (lo hi : Option PV) : Option PV :=
  match x with
  | .str l => match lo, hi with
    | none, none => some (.str l)
    | some (.int _ a), none => if 0 ≤ a ∧ a ≤ l.length then some (.str (l.drop a.toNat)) else none
    | none, some (.int _ b) => if 0 ≤ b ∧ b ≤ l.length then some (.str (l.take b.toNat)) else none
    | some (.int _ a), some (.int _ b) => if 0 ≤ a ∧ a ≤ b ∧ b ≤ l.length then some (.str ((l.take b.toNat).drop a.toNat)) else none
    | _, _ => none
  | .list sz xs _ => match lo, hi with
    | none, none => some (.list sz xs .no)
    | some (.int _ a), none => if 0 ≤ a ∧ a ≤ xs.length then some (.list sz (xs.drop a.toNat) .no) else none
    | none, some (.int _ b) => if 0 ≤ b ∧ b ≤ xs.length then some (.list sz (xs.take b.toNat) .no) else none
    | some (.int _ a), some (.int _ b) => if 0 ≤ a ∧ a ≤ b ∧ b ≤ xs.length then some (.list sz ((xs.take b.toNat).drop a.toNat) .no) else none
    | _, _ => none
  | _ => none
theorem fCut_ok {x r : PV} {lo hi : Option PV} (h : fCut x lo hi = some r) {K : PV → Prop} (hk : K r) : pCut x lo hi K := by
  unfold fCut at h
  unfold pCut
  (repeat' split at h) <;> first
    | (injection h with h; subst h; first | exact hk | (rename_i hc; exact ⟨hc.1, hc.2, hk⟩) | (rename_i hc; exact ⟨hc.1, hc.2.1, hc.2.2, hk⟩))
    | cases h
def fField (y : TyI) (f : Nat) (p : PV) : Option PV :=
  match p with
  | .ref r o => match y.flds[f]? with
    | some (off, n, _) => bif n == 0 then none else some (.ref r (o + off))
    | none => none
  | .elem (.agg cs) => match y.flds[f]? with
    | some (off, n, true) => bif n == 0 then none else (if off + n ≤ cs.length then some (.elem (.agg ((cs.drop off).take n))) else none)
    | some (off, n, false) => bif n == 0 then none else (match cs[off]? with | some c => some (.elem c) | none => none)
    | none => none
  | _ => none
theorem ne_of_beq {n : Nat} {α : Type} {x : Option α} {r : α} (h : (bif n == 0 then none else x) = some r) : n ≠ 0 ∧ x = some r := by
  cases n with
  | zero => cases h
  | succ n => exact ⟨by simp, by simpa using h⟩
theorem fField_ok {y : TyI} {f : Nat} {p r : PV} (h : fField y f p = some r) {K : PV → Prop} (hk : K r) : pFieldAddr y f p K := by
  unfold fField at h
  unfold pFieldAddr
  split at h
  · split at h
    · rename_i hf
      obtain ⟨h1, h2⟩ := ne_of_beq h
      injection h2 with h2
      subst h2
      simp only [hf]
      exact ⟨h1, hk⟩
    · cases h
  · split at h
    · rename_i hf
      obtain ⟨h1, h2⟩ := ne_of_beq h
      split at h2
      · injection h2 with h2
        subst h2
        simp only [hf]
        exact ⟨h1, by assumption, hk⟩
      · cases h2
    · rename_i hf
      obtain ⟨h1, h2⟩ := ne_of_beq h
      split at h2
      · injection h2 with h2
        subst h2
        simp only [hf]
        exact ⟨h1, _, by assumption, hk⟩
      · cases h2
    · cases h
  · cases h

/-- An operation that is no call: what it makes of the temporaries and the state. -/
def stepF (tt : TTab) (ow : List Nat) (nt : Nat) (o : Oper) (env : Env) (st : St) : Option (Env × St) :=
  match o.op with
  | .move x | .assign x => match vl env x with
    | some a => some (put nt o.dst env a, st)
    | none => none
  | .pick c a b => match vl env c with
    | some (.bool t) => match vl env a, vl env b with
      | some (.bool x), some (.bool y) => some (put nt o.dst env (.bool (bif t then x else y)), st)
      | some x, some y => match t with
        | true => some (put nt o.dst env x, st)
        | false => some (put nt o.dst env y, st)
      | _, _ => none
    | _ => none
  | .alloc T => match tt T with
    | some y => some (put nt o.dst env (.ref st.box.length 0), { st with box := st.box ++ [y.zero] })
    | none => none
  | .box T x => match vl env x with
    | some a => match a.cells.all PV.isCell with
      | true => some (put nt o.dst env (.ref st.box.length 0), { st with box := st.box ++ [a.cells] })
      | false => none
    | none => none
  | .build T ps => match tt T with
    | some y => match y.k with
      | .struct => match vlParts env ps.toList with
        | some xs => match fillPV y.flds y.zero xs with
          | some cs => some (put nt o.dst env (.agg cs), st)
          | none => none
        | none => none
      | _ => none
    | none => none
  | .buildSlice T n ps => match tt T with
    | some y => match y.k with
      | .slice e => match tt e with
        | some ye => match vlParts env ps.toList with
          | some ps' => match dense 0 ps' with
            | some xs => if xs.length = n ∧ 0 < ye.size ∧ n * ye.size ≤ 16777216 ∧ (∀ x ∈ xs, x.cells.length = ye.size ∧ x.cells.all PV.isCell = true) then
                (match owns ow o.dst with
                | true => some (put nt o.dst env (.list ye.size xs (.own st.len.length)), { st with len := st.len ++ [n] })
                | false => some (put nt o.dst env (.list ye.size xs .no), st))
              else none
            | none => none
          | none => none
        | none => none
      | _ => none
    | none => none
  | .load T a => match vl env a with
    | some p => match tt T with
      | some y => match ldPV y st p with
        | some x => some (put nt o.dst env x, st)
        | none => none
      | none => none
    | none => none
  | .store T a v => match vl env a with
    | some p => match tt T with
      | some y => match vl env v with
        | some x => match stPV y st p x with
          | some st' => some (put nt o.dst env (.val undef), st')
          | none => none
        | none => none
      | none => none
    | none => none
  | .nilCheck x => match vl env x with
    | some p => match pNil p with
      | true => some (put nt o.dst env p, st)
      | false => none
    | none => none
  | .binOp op T x y _ => match vl env x with
    | some (.agg xs) => match vl env y with
      | some (.agg ys) => match tt T with
        | some yt => match yt.cmp with
          | true => match eqCells yt.zero xs ys with
            | some r => match op with
              | .eql => some (put nt o.dst env (.bool r), st)
              | .neq => some (put nt o.dst env (.bool (!r)), st)
              | _ => none
            | none => none
          | false => none
        | none => none
      | _ => none
    | some a => match vl env y with
      | some b => match fBin op a b with
        | some r => some (put nt o.dst env r, st)
        | none => match tt T with
          | some yt => match fNil op yt.k a b with
            | some r => some (put nt o.dst env (.bool r), st)
            | none => none
          | none => none
      | none => none
    | none => none
  | .unOp op _ x => match op, vl env x with
    | .not, some (.bool b) => some (put nt o.dst env (.bool (!b)), st)
    | .neg, some (.int k n) => some (put nt o.dst env (.int k (k.wrap (0 - n))), st)
    | _, _ => none
  | .convert s d x => match tt s with
    | some ys => match tt d with
      | some yd => match vl env x with
        | some (.int _ n) => match yd.k with
          | .int k => some (put nt o.dst env (.int k (k.wrap n)), st)
          | _ => none
        | some (.str l) => match yd.k with
          | .str => some (put nt o.dst env (.str l), st)
          | _ => none
        | _ => none
      | none => none
    | none => none
  | .makeFunc fn fs cs => match vls env fs.toList with
    | some us => match vls env cs.toList with
      | some vs => some (put nt o.dst env (.clo fn us vs), st)
      | none => none
    | none => none
  | .slice T x lo hi none => match tt T with
    | some y => match vl env x with
      | some a => match (match y.k, a with
          | .str, .str _ => true
          | .slice e, .list sz _ _ => match tt e with
            | some ye => ye.size == sz
            | none => false
          | _, _ => false) with
        | true => match vlo env lo with
          | some l => match vlo env hi with
            | some h => match fCut a l h with
              | some r => some (put nt o.dst env r, st)
              | none => none
            | none => none
          | none => none
        | false => none
      | none => none
    | none => none
  | .fieldAddr T x f => match tt T with
    | some y => match y.k with
      | .struct => match vl env x with
        | some p => match fField y f p with
          | some r => some (put nt o.dst env r, st)
          | none => none
        | none => none
      | _ => none
    | none => none
  | .field T x f => match tt T with
    | some y => match y.k with
      | .struct => match vl env x with
        | some (.agg cs) => match fldOf y f cs with
          | some r => some (put nt o.dst env r, st)
          | none => none
        | _ => none
      | _ => none
    | none => none
  | .indexAddr T x i => match tt T with
    | some y => match y.k with
      | .slice e => match tt e with
        | some ye => match vl env x with
          | some (.list sz xs t) => match sz == ye.size with
            | true => match vl env i with
              | some (.int k n) => if 0 ≤ n then (match xs[n.toNat]? with
                  | some z => some (put nt o.dst env (.elem z), st)
                  | none => none) else none
              | _ => none
            | false => none
          | _ => none
        | none => none
      | _ => none
    | none => none
  | .index T x i => match tt T with
    | some y => match y.k with
      | .str => match vl env x with
        | some (.str l) => match vl env i with
          | some (.int k n) => if 0 ≤ n then (match l[n.toNat]? with
              | some c => some (put nt o.dst env (.int .u8 (c.toNat : Int)), st)
              | none => none) else none
          | _ => none
        | _ => none
      | _ => none
    | none => none
  | .extract t i => match vl env t with
    | some (.tup cs) => match cs[i]? with
      | some x => some (put nt o.dst env x, st)
      | none => none
    | _ => none
  | .call c => match c.callee with
    | .builtin .len => match c.argTypes.toList, c.args.toList with
      | [T], [x] => match tt T with
        | some y => match vl env x with
          | some (.str l) => match y.k with
            | .str => some (put nt o.dst env (.int .i64 (l.length : Int)), st)
            | _ => none
          | some (.list _ xs _) => match y.k with
            | .slice _ => some (put nt o.dst env (.int .i64 (xs.length : Int)), st)
            | _ => none
          | _ => none
        | none => none
      | _, _ => none
    | .builtin .append => match c.argTypes.toList, c.args.toList with
      | [T, T'], [s, x] => match tt T with
        | some y => match y.k with
          | .slice e => match tt e with
            | some ye => match vl env s with
              | some (.list sz xs (.own k)) => match vl env x with
                | some (.list sz' ys t) => if T' = T ∧ sz = ye.size ∧ sz' = ye.size ∧ 0 < ye.size ∧ st.len[k]? = some xs.length ∧ (xs.length + ys.length) * ye.bytes ≤ 140737488355328 ∧ xs.length + ys.length ≤ maxLen then
                    some (put nt o.dst env (.list sz (xs ++ ys) (.own k)), { st with len := st.len.set k (xs.length + ys.length) })
                  else none
                | _ => none
              | _ => none
            | none => none
          | _ => none
        | none => none
      | _, _ => none
    | .builtin .max => match c.args.toList with
      | [x, y] => match vl env x with
        | some (.int k a) => match vl env y with
          | some (.int k' b) => if k' = k then some (put nt o.dst env (.int k (if b > a then b else a)), st) else none
          | _ => none
        | _ => none
      | _ => none
    | _ => none
  | _ => none

theorem stepF_ok {P : Program} {tt : TTab} {ow : List Nat} {nt : Nat} {o : Oper} {env env' : Env} {st st' : St} (h : stepF tt ow nt o env st = some (env', st')) {K : Env → St → Prop} (hk : K env' st') : pOp P tt ow nt o env st K := by
  unfold stepF at h
  simp only [vl_eq, vls_eq, vlParts_eq, vlo_eq] at h
  unfold pOp
  split at h <;> rename_i ho
  · simp only [ho]
    split at h <;> cases h
    exact ⟨_, by assumption, hk⟩
  · simp only [ho]
    split at h <;> cases h
    exact ⟨_, by assumption, hk⟩
  · simp only [ho]
    split at h
    · rename_i t hc
      refine ⟨t, hc, ?_⟩
      split at h
      · rename_i hx hy
        cases h
        simp only [hx, hy]
        exact hk
      · rename_i x y hne hx hy
        split
        · rename_i p q e1 e2
          exact (hne p q (Option.some.inj (hx.symm.trans e1)) (Option.some.inj (hy.symm.trans e2))).elim
        · split at h <;> cases h
          · exact ⟨fun _ => ⟨_, hx, hk⟩, fun e => by cases e⟩
          · exact ⟨(fun e => by cases e), fun _ => ⟨_, hy, hk⟩⟩
      · cases h
    · cases h
  · simp only [ho]
    split at h <;> cases h
    exact ⟨_, by assumption, hk⟩
  · simp only [ho]
    (repeat' split at h) <;> cases h
    exact ⟨_, by assumption, by assumption, hk⟩
  · simp only [ho]
    (repeat' split at h) <;> cases h
    exact ⟨_, _, _, by assumption, by assumption, by assumption, by assumption, hk⟩
  · simp only [ho]
    (repeat' split at h) <;> cases h
    · rename_i hc _ hw
      exact ⟨_, _, _, _, _, by assumption, by assumption, by assumption, by assumption, by assumption, hc.1, hc.2.1, hc.2.2.1, hc.2.2.2, by rw [if_pos hw]; exact hk⟩
    · rename_i hc _ hw
      exact ⟨_, _, _, _, _, by assumption, by assumption, by assumption, by assumption, by assumption, hc.1, hc.2.1, hc.2.2.1, hc.2.2.2, by rw [if_neg (by rw [hw]; simp)]; exact hk⟩
  · simp only [ho]
    (repeat' split at h) <;> cases h
    exact ⟨_, _, _, by assumption, by assumption, by assumption, hk⟩
  · simp only [ho]
    (repeat' split at h) <;> cases h
    exact ⟨_, _, _, _, by assumption, by assumption, by assumption, by assumption, hk⟩
  · simp only [ho]
    (repeat' split at h) <;> cases h
    exact ⟨_, by assumption, by assumption, hk⟩
  · simp only [ho]
    split at h
    · (repeat' split at h) <;> cases h
      · exact .inr (.inl ⟨_, _, _, _, by assumption, by assumption, by assumption, by assumption, by assumption, .inl ⟨rfl, hk⟩⟩)
      · exact .inr (.inl ⟨_, _, _, _, by assumption, by assumption, by assumption, by assumption, by assumption, .inr ⟨rfl, hk⟩⟩)
    · split at h
      · split at h
        · cases h
          exact .inl ⟨_, _, by assumption, by assumption, fBin_ok (by assumption) hk⟩
        · split at h
          · split at h
            · cases h
              exact .inr (.inr ⟨_, _, _, _, by assumption, by assumption, by assumption, by assumption, hk⟩)
            · cases h
          · cases h
      · cases h
    · cases h
  · simp only [ho]
    split at h <;> rename_i hx <;> first | (cases h; simp only [hx]; exact hk) | cases h
  · simp only [ho]
    (repeat' split at h) <;> cases h
    · rename_i hkk
      exact ⟨_, _, _, by assumption, by assumption, by assumption, by simp only [pConv, hkk]; exact hk⟩
    · rename_i hkk
      exact ⟨_, _, _, by assumption, by assumption, by assumption, by simp only [pConv, hkk]; exact hk⟩
  · simp only [ho]
    (repeat' split at h) <;> cases h
    exact ⟨_, _, by assumption, by assumption, hk⟩
  · simp only [ho]
    split at h
    · rename_i y hy
      split at h
      · rename_i a ha
        split at h
        · rename_i hm
          (repeat' split at h) <;> cases h
          refine ⟨y, a, _, _, hy, ?_, ha, by assumption, by assumption, fCut_ok (by assumption) hk⟩
          cases hyk : y.k <;> cases a <;> simp only [hyk] at hm ⊢ <;> first | trivial | (cases hm; done) | skip
          split at hm
          · rename_i ye e2
            exact ⟨_, ye, rfl, e2, by simpa using hm⟩
          · cases hm
        · cases h
      · cases h
    · cases h
  · simp only [ho]
    (repeat' split at h) <;> cases h
    exact ⟨_, _, by assumption, by assumption, by assumption, fField_ok (by assumption) hk⟩
  · simp only [ho]
    (repeat' split at h) <;> cases h
    exact ⟨_, _, _, by assumption, by assumption, by assumption, by assumption, hk⟩
  · simp only [ho]
    split at h
    · split at h
      · split at h
        · split at h
          · split at h
            · rename_i hsz
              have hsz' := beq_iff_eq.1 hsz
              subst hsz'
              (repeat' split at h) <;> cases h
              exact ⟨_, _, _, _, _, _, _, _, by assumption, by assumption, by assumption, by assumption, by assumption, by assumption, by assumption, hk⟩
            · cases h
          · cases h
        · cases h
      · cases h
    · cases h
  · simp only [ho]
    (repeat' split at h) <;> cases h
    exact ⟨_, _, _, _, _, by assumption, by assumption, by assumption, by assumption, by assumption, by assumption, hk⟩
  · simp only [ho]
    (repeat' split at h) <;> cases h
    exact ⟨_, _, by assumption, by assumption, hk⟩
  · simp only [ho]
    split at h
    · rename_i hcl
      simp only [hcl]
      split at h
      · rename_i T x h1 h2
        (repeat' split at h) <;> cases h
        · rename_i hkk
          exact ⟨T, x, _, _, by rw [← Array.toArray_toList (xs := (_ : Call).argTypes), h1], by rw [← Array.toArray_toList (xs := (_ : Call).args), h2], by assumption, by assumption, by simp only [hkk]; exact hk⟩
        · rename_i hkk
          exact ⟨T, x, _, _, by rw [← Array.toArray_toList (xs := (_ : Call).argTypes), h1], by rw [← Array.toArray_toList (xs := (_ : Call).args), h2], by assumption, by assumption, by simp only [hkk]; exact hk⟩
      · cases h
    · rename_i hca
      simp only [hca]
      split at h
      · rename_i T T' s x h1 h2
        (repeat' split at h) <;> cases h
        rename_i hc
        obtain ⟨rfl, rfl, rfl, h3, h4, h5, h6⟩ := hc
        exact ⟨T', s, x, _, _, _, _, _, _, _, by rw [← Array.toArray_toList (xs := (_ : Call).argTypes), h1], by rw [← Array.toArray_toList (xs := (_ : Call).args), h2], by assumption, by assumption, by assumption, h3, by assumption, by assumption, h4, h5, h6, hk⟩
      · cases h
    · rename_i hcm
      simp only [hcm]
      split at h
      · rename_i x y h2
        split at h
        · split at h
          · split at h
            · rename_i hkk
              subst hkk
              cases h
              exact ⟨x, y, _, _, _, by rw [← Array.toArray_toList (xs := (_ : Call).args), h2], by assumption, by assumption, hk⟩
            · cases h
          · cases h
        · cases h
      · cases h
    · cases h
  · cases h

/-- Where a run stands: at the end, or at a call. -/
inductive Res where
  | fin (env : Env) (st : St)
  | call (f : FuncId) (args : List PV) (d : Option Tmp) (n : Nat) (env : Env) (st : St)
def callOf (env : Env) (o : Op) : Option (Option (FuncId × List PV)) :=
  match o with
  | .call c => match c.callee with
    | .value f => match vl env f with
      | some (.clo (.func fn) fs cs) => match vls env c.args.toList with
        | some ags => some (some (fn, fs ++ ags ++ cs))
        | none => some none
      | _ => some none
    | _ => none
  | _ => none
def runF (tt : TTab) (ow : List Nat) (nt : Nat) (gd : Nat → Option Tmp) : Nat → List Oper → Env → St → Option Res
  | _, [], env, st => some (.fin env st)
  | n, o :: r, env, st => match (match o.guard with
      | none => some true
      | some (j, want) => match gd j with
        | some d => match eg env d with
          | some x => gval want x
          | none => none
        | none => none) with
    | some true => match callOf env o.op with
      | some (some (f, args)) => some (.call f args o.dst (n + 1) env st)
      | some none => none
      | none => match stepF tt ow nt o env st with
        | some (env', st') => runF tt ow nt gd (n + 1) r env' st'
        | none => none
    | some false => runF tt ow nt gd (n + 1) r (put nt o.dst env (.val undef)) st
    | none => none
def Holds (P : Program) (nt : Nat) (ops : Array Oper) (K : Env → St → Prop) : Option Res → Prop
  | some (.fin env st) => K env st
  | some (.call f args d n env st) => PC P f args st fun r st' => PO P nt ops n (put nt d env r) st' K
  | none => False
theorem run_ok {P : Program} {tt : TTab} {ow : List Nat} {nt : Nat} {ops : Array Oper} {K : Env → St → Prop} : ∀ (r : List Oper) (n : Nat) (env : Env) (st : St), Holds P nt ops K (runF tt ow nt (gdOf ops) n r env st) → pOps P tt ow nt ops n r env st K
  | [], n, env, st, h => h
  | o :: r, n, env, st, h => by
    simp only [runF] at h
    have hgo : ∀ (hh : Holds P nt ops K (match callOf env o.op with
      | some (some (f, args)) => some (.call f args o.dst (n + 1) env st)
      | some none => none
      | none => match stepF tt ow nt o env st with
        | some (env', st') => runF tt ow nt (gdOf ops) (n + 1) r env' st'
        | none => none)), (if isCall o.op then pOp P tt ow nt o env st fun env st => PO P nt ops (n + 1) env st K else pOp P tt ow nt o env st fun env st => pOps P tt ow nt ops (n + 1) r env st K) := by
      intro hh
      cases hc : callOf env o.op with
      | none =>
        rw [hc] at hh
        have hnc : isCall o.op = false ∨ isCall o.op = true := by cases isCall o.op <;> simp
        rcases hnc with hnc | hnc
        · rw [if_neg (by rw [hnc]; simp)]
          simp only at hh
          split at hh
          · rename_i env' st' hs
            exact stepF_ok hs (run_ok r (n + 1) env' st' hh)
          · exact hh.elim
        · exfalso
          unfold isCall at hnc
          unfold callOf at hc
          split at hnc
          · rename_i c ho
            rw [ho] at hc
            simp only at hc
            split at hnc
            · rename_i f hf
              rw [hf] at hc
              simp only at hc
              split at hc
              · split at hc <;> cases hc
              · cases hc
            · cases hnc
          · cases hnc
      | some x =>
        rw [hc] at hh
        cases x with
        | none => exact hh.elim
        | some x =>
          obtain ⟨f, args⟩ := x
          simp only [Holds] at hh
          unfold callOf at hc
          split at hc
          · rename_i c ho
            split at hc
            · rename_i g hg
              split at hc
              · rename_i fn fs cs hf
                split at hc
                · rename_i ags has
                  cases hc
                  rw [if_pos (by simp [isCall, ho, hg])]
                  simp only [pOp, ho, hg]
                  exact ⟨f, fs, cs, ags, by rw [← vl_eq]; exact hf, by rw [← vls_eq]; exact has, hh⟩
                · cases hc
              · cases hc
            · cases hc
          · cases hc
    simp only [pOps]
    split
    · rename_i hg
      simp only [hg] at h
      exact hgo h
    · rename_i j want hg
      simp only [hg] at h
      split at h
      · rename_i hm
        split at hm
        · rename_i d hd
          split at hm
          · rename_i x hx
            exact ⟨d, x, true, hd, by rw [← eg_eq]; exact hx, hm, (fun _ => hgo h), (fun e => by cases e)⟩
          · cases hm
        · cases hm
      · rename_i hm
        split at hm
        · rename_i d hd
          split at hm
          · rename_i x hx
            exact ⟨d, x, false, hd, by rw [← eg_eq]; exact hx, hm, (fun e => by cases e), (fun _ => run_ok r (n + 1) _ st h)⟩
          · cases hm
        · cases hm
      · exact h.elim
section
variable {P : Program} {tt : TTab} {nt : Nat}
/-- A region from place n on. -/
theorem PO.go (ht : TT P tt) (ow : List Nat) {ops : Array Oper} {n : Nat} {env : Env} {st : St} {K : Env → St → Prop} (h : Holds P nt ops K (runF tt ow nt (gdOf ops) n (ops.toList.drop n) env st)) : PO P nt ops n env st K :=
  PO.run ht ow (run_ok _ n env st h)
/-- A region, and what stands behind it under a name. -/
theorem PW.go (ht : TT P tt) (ow : List Nat) {id : Nat} {ops : Array Oper} {y : Code} {Q : Exit → Env → St → Prop} {env : Env} {st : St}
    (h : ∀ K : Env → St → Prop, (∀ env st, PW P nt y Q env st → K env st) → Holds P nt ops K (runF tt ow nt (gdOf ops) 0 ops.toList env st)) : PW P nt (.seq (.region id ops false) y) Q env st :=
  PW.seq_k fun K hK => PW.region ht ow (run_ok _ 0 env st (h K hK))
/-- A region, the last of its code. -/
theorem PW.goL (ht : TT P tt) (ow : List Nat) {id : Nat} {ops : Array Oper} {Q : Exit → Env → St → Prop} {env : Env} {st : St}
    (h : ∀ K : Env → St → Prop, (∀ env st, Q .normal env st → K env st) → Holds P nt ops K (runF tt ow nt (gdOf ops) 0 ops.toList env st)) : PW P nt (.region id ops false) Q env st :=
  PW.region ht ow (run_ok _ 0 env st (h _ fun _ _ h => h))
end
end Go.Proofs.Ytolhbjfaahcekaa
end
section
/- What an operation looks at, and which look at the temporaries alone. -/
set_option linter.unusedVariables false
set_option linter.unusedSimpArgs false
namespace Go.Proofs.Ytolhbjfaahcekaa

theorem vls_congr {E F : Env} : ∀ {os : List Operand}, (∀ x ∈ os, vl F x = vl E x) → vls F os = vls E os
  | [], _ => rfl
  | o :: os, h => by simp only [vls, h o (by simp), vls_congr (os := os) fun x hx => h x (by simp [hx])]
theorem vlParts_congr {E F : Env} : ∀ {os : List (Nat × Operand)}, (∀ x ∈ os.map (·.2), vl F x = vl E x) → vlParts F os = vlParts E os
  | [], _ => rfl
  | (i, o) :: os, h => by simp only [vlParts, h o (by simp), vlParts_congr (os := os) fun x hx => h x (by simp only [List.map_cons, List.mem_cons]; exact .inr hx)]
theorem vlo_congr {E F : Env} {o : Option Operand} (h : ∀ x ∈ o.toArray, vl F x = vl E x) : vlo F o = vlo E o := by
  cases o with
  | none => rfl
  | some o => simp only [vlo, h o (by simp)]

theorem stepF_congr {tt : TTab} {ow : List Nat} {nt : Nat} {o : Oper} {E F E' : Env} {st st' : St} (hv : ∀ x ∈ o.op.operands, vl F x = vl E x) (h : stepF tt ow nt o E st = some (E', st')) :
    ∃ x, E' = put nt o.dst E x ∧ stepF tt ow nt o F st = some (put nt o.dst F x, st') := by
  obtain ⟨dst, op, type, pos, after, guard⟩ := o
  unfold stepF at h ⊢
  cases op <;> simp only at h ⊢ <;> first | cases h; done | skip
  case alloc => (repeat' split at h) <;> cases h; exact ⟨_, rfl, by simp only [*]⟩
  case makeFunc fn fs cs =>
    simp only [Op.operands] at hv
    rw [vls_congr (E := E) (F := F) (os := fs.toList) fun x hx => hv x (by simp at hx ⊢; exact .inl hx), vls_congr (E := E) (F := F) (os := cs.toList) fun x hx => hv x (by simp at hx ⊢; exact .inr hx)]
    (repeat' split at h) <;> cases h; exact ⟨_, rfl, by simp only [*]⟩
  case build T ps =>
    simp only [Op.operands] at hv
    rw [vlParts_congr (E := E) (F := F) (os := ps.toList) fun x hx => hv x (by simpa using hx)]
    (repeat' split at h) <;> cases h; exact ⟨_, rfl, by simp only [*]⟩
  case buildSlice T n ps =>
    simp only [Op.operands] at hv
    rw [vlParts_congr (E := E) (F := F) (os := ps.toList) fun x hx => hv x (by simpa using hx)]
    (repeat' split at h) <;> cases h <;> exact ⟨_, rfl, by simp +contextual only [*, implies_true, and_self, if_true]⟩
  case slice T x lo hi mx =>
    cases mx with
    | some m => cases h
    | none =>
      simp only [Op.operands] at hv
      simp only at h ⊢
      rw [vlo_congr (E := E) (F := F) (o := lo) fun x hx => hv x (by simp at hx ⊢; simp [hx]), vlo_congr (E := E) (F := F) (o := hi) fun x hx => hv x (by simp at hx ⊢; simp [hx]), hv x (by simp)]
      (repeat' split at h) <;> cases h; exact ⟨_, rfl, by simp only [*]⟩
  case call c =>
    have hargs : ∀ x ∈ c.args.toList, vl F x = vl E x := fun x hx => hv x (by simp only [Op.operands, Call.operands]; simp at hx ⊢; exact .inr hx)
    split at h
    · split at h
      · rename_i T x h1 h2
        rw [h2] at hargs
        simp only [h1, h2, hargs x (by simp)]
        (repeat' split at h) <;> cases h <;> exact ⟨_, rfl, by simp only [*]⟩
      · cases h
    · split at h
      · rename_i T T' s x h1 h2
        rw [h2] at hargs
        simp only [h1, h2, hargs s (by simp), hargs x (by simp)]
        (repeat' split at h) <;> cases h
        exact ⟨_, rfl, by simp only [*]; simp⟩
      · cases h
    · split at h
      · rename_i x y h2
        rw [h2] at hargs
        simp only [h2, hargs x (by simp), hargs y (by simp)]
        split at h
        · split at h
          · split at h
            · rename_i h5
              cases h
              exact ⟨_, rfl, by simp only [*, if_true]⟩
            · cases h
          · cases h
        · cases h
      · cases h
    · cases h
  case pick c a b =>
    simp only [Op.operands] at hv
    rw [hv c (by simp), hv a (by simp), hv b (by simp)]
    (repeat' split at h) <;> cases h <;> first | exact ⟨_, rfl, by simp only [*]⟩ | exact ⟨_, rfl, rfl⟩
  case binOp op T x y _ =>
    simp only [Op.operands] at hv
    rw [hv x (by simp), hv y (by simp)]
    (repeat' split at h) <;> cases h <;> first | exact ⟨_, rfl, rfl⟩ | exact ⟨_, rfl, by simp only [*]⟩
  case store T x y =>
    simp only [Op.operands] at hv
    rw [hv x (by simp), hv y (by simp)]
    (repeat' split at h) <;> cases h; exact ⟨_, rfl, by simp only [*]⟩
  case indexAddr T x y =>
    simp only [Op.operands] at hv
    rw [hv x (by simp), hv y (by simp)]
    (repeat' split at h) <;> cases h; exact ⟨_, rfl, by simp only [*, if_true]⟩
  case index T x y =>
    simp only [Op.operands] at hv
    rw [hv x (by simp), hv y (by simp)]
    (repeat' split at h) <;> cases h; exact ⟨_, rfl, by simp only [*, if_true]⟩
  case unOp op T x =>
    simp only [Op.operands] at hv
    rw [hv x (by simp)]
    split at h <;> first | (cases h; exact ⟨_, rfl, by simp only [*]⟩) | cases h
  all_goals
    simp only [Op.operands] at hv
    rw [hv _ (Array.mem_singleton.2 rfl)]
    (repeat' split at h) <;> cases h <;> exact ⟨_, rfl, by simp only [*, if_true]⟩

/-- Looks at the temporaries alone. -/
def pureO (ow : List Nat) (o : Oper) : Bool := match o.op with
  | .load .. | .store .. | .alloc _ | .box .. => false
  | .buildSlice .. => !(owns ow o.dst)
  | .call c => match c.callee with
    | .builtin .len => true
    | _ => false
  | _ => true
def isLoad (o : Oper) : Bool := match o.op with
  | .load .. => true
  | _ => false
theorem stepF_pure {tt : TTab} {ow : List Nat} {nt : Nat} {o : Oper} {E E' : Env} {st st' : St} (hp : pureO ow o = true) (h : stepF tt ow nt o E st = some (E', st')) (s : St) : st' = st ∧ stepF tt ow nt o E s = some (E', s) := by
  obtain ⟨dst, op, type, pos, after, guard⟩ := o
  unfold stepF at h ⊢
  unfold pureO at hp
  cases op <;> simp only at h hp ⊢ <;> first | cases h; done | cases hp; done | skip
  case slice T x lo hi mx =>
    cases mx with
    | some m => cases h
    | none =>
      simp only at h ⊢
      (repeat' split at h) <;> cases h; exact ⟨rfl, by simp only [*]⟩
  case buildSlice T n ps =>
    have hw : owns ow dst = false := by simpa using hp
    simp only [hw] at h ⊢
    (repeat' split at h) <;> cases h <;> exact ⟨rfl, by simp +contextual only [*, implies_true, and_self, if_true]⟩
  case call c =>
    split at hp
    · rename_i hc
      simp only [hc] at h ⊢
      split at h
      · rename_i T x h1 h2
        try simp only [h1, h2]
        (repeat' split at h) <;> cases h <;> exact ⟨rfl, by simp only [*]⟩
      · cases h
    · cases hp
  case pick => (repeat' split at h) <;> cases h <;> first | exact ⟨rfl, by simp only [*]⟩ | exact ⟨rfl, rfl⟩
  case unOp => split at h <;> first | (cases h; exact ⟨rfl, by simp only [*]⟩) | cases h
  all_goals (repeat' split at h) <;> cases h <;> exact ⟨rfl, by simp only [*, if_true]⟩
theorem stepF_load {tt : TTab} {ow : List Nat} {nt : Nat} {o : Oper} {E E' : Env} {st st' : St} (hp : isLoad o = true) (h : stepF tt ow nt o E st = some (E', st')) : st' = st := by
  obtain ⟨dst, op, type, pos, after, guard⟩ := o
  unfold stepF at h
  cases op <;> first | cases hp; done | skip
  simp only at h
  (repeat' split at h) <;> cases h; rfl
theorem callOf_congr {o : Oper} {E F : Env} (hv : ∀ x ∈ o.op.operands, vl F x = vl E x) : callOf F o.op = callOf E o.op := by
  unfold callOf
  split
  · rename_i c ho
    rw [ho] at hv
    simp only [Op.operands, Call.operands] at hv
    split
    · rename_i f hf
      rw [hf] at hv
      rw [hv f (by simp), vls_congr (E := E) (F := F) (os := c.args.toList) fun x hx => hv x (by simp at hx ⊢; exact .inr hx)]
    · rfl
  · rfl

/-- Is it wanted? -/
def wantF (ops : Array Oper) (o : Oper) (E : Env) : Option Bool := match o.guard with
  | none => some true
  | some (j, want) => match gdOf ops j with
    | some d => match eg E d with
      | some x => gval want x
      | none => none
    | none => none
/-- An operation that is no call, with its guard. -/
def stepW (tt : TTab) (ow : List Nat) (nt : Nat) (ops : Array Oper) (o : Oper) (E : Env) (st : St) : Option (Env × St) := match wantF ops o E with
  | some true => match callOf E o.op with
    | none => stepF tt ow nt o E st
    | some _ => none
  | some false => some (put nt o.dst E (.val undef), st)
  | none => none
theorem gdOf_eq (ops : Array Oper) (j : Nat) : gdOf ops j = (ops[j]?).bind (·.dst) := by unfold gdOf; rw [Array.getElem?_toList]
theorem looks_vl {ops : Array Oper} {o : Oper} {E F : Env} (h : ∀ t ∈ o.looksAt ops, eg F t = eg E t) : ∀ x ∈ o.op.operands, vl F x = vl E x := by
  intro x hx
  cases x with
  | tmp t => exact h t (List.mem_append_left _ (List.mem_filterMap.2 ⟨.tmp t, by simpa using hx, rfl⟩))
  | const v => rfl
  | func f => rfl
  | global g => rfl
theorem wantF_congr {ops : Array Oper} {o : Oper} {E F : Env} (h : ∀ t ∈ o.looksAt ops, eg F t = eg E t) : wantF ops o F = wantF ops o E := by
  unfold wantF
  cases hg : o.guard with
  | none => rfl
  | some gw =>
    obtain ⟨j, want⟩ := gw
    simp only
    cases hd : gdOf ops j with
    | none => rfl
    | some d =>
      simp only
      rw [h d]
      rw [gdOf_eq] at hd
      exact List.mem_append_right _ (by simp only [hg, hd]; simp)
theorem stepW_congr {tt : TTab} {ow : List Nat} {nt : Nat} {ops : Array Oper} {o : Oper} {E F E' : Env} {st st' : St} (hv : ∀ t ∈ o.looksAt ops, eg F t = eg E t) (h : stepW tt ow nt ops o E st = some (E', st')) :
    ∃ x, E' = put nt o.dst E x ∧ stepW tt ow nt ops o F st = some (put nt o.dst F x, st') := by
  unfold stepW at h ⊢
  rw [wantF_congr hv, callOf_congr (looks_vl hv)]
  split at h
  · split at h
    · rename_i hw _ hc
      obtain ⟨x, h1, h2⟩ := stepF_congr (looks_vl hv) h
      exact ⟨x, h1, by (try simp only [hw, hc]); exact h2⟩
    · cases h
  · rename_i hw
    cases h
    exact ⟨_, rfl, by simp only [hw]⟩
  · cases h
theorem stepW_pure {tt : TTab} {ow : List Nat} {nt : Nat} {ops : Array Oper} {o : Oper} {E E' : Env} {st st' : St} (hp : pureO ow o = true) (h : stepW tt ow nt ops o E st = some (E', st')) (s : St) : st' = st ∧ stepW tt ow nt ops o E s = some (E', s) := by
  unfold stepW at h ⊢
  split at h
  · split at h
    · rename_i hw _ hc
      try simp only [hw, hc]
      exact stepF_pure hp h s
    · cases h
  · rename_i hw
    cases h
    exact ⟨rfl, by simp only [hw]⟩
  · cases h
theorem stepW_load {tt : TTab} {ow : List Nat} {nt : Nat} {ops : Array Oper} {o : Oper} {E E' : Env} {st st' : St} (hp : isLoad o = true) (h : stepW tt ow nt ops o E st = some (E', st')) : st' = st := by
  unfold stepW at h
  split at h
  · split at h
    · exact stepF_load hp h
    · cases h
  · cases h; rfl
  · cases h
theorem eg_put (nt : Nat) (d : Option Tmp) (E : Env) (x : PV) (t : Nat) : eg (put nt d E x) t = if d = some t ∧ t < nt then some x else eg E t := by
  cases d with
  | none => simp [put]
  | some d =>
    simp only [put]
    by_cases h : d < nt
    · rw [if_pos h]
      simp only [eg]
      by_cases ht : t = d
      · subst ht; simp [h]
      · have h1 : (t == d) = false := by simpa using ht
        rw [h1, if_neg (by rintro ⟨h2, _⟩; injection h2 with h2; exact ht h2.symm)]
        rfl
    · rw [if_neg h, if_neg]
      rintro ⟨h2, h3⟩
      injection h2 with h2
      subst h2
      exact h h3
end Go.Proofs.Ytolhbjfaahcekaa
end
section
/- A region in any order: what may be read early, is; the rest stands in a row. -/
set_option linter.unusedVariables false
set_option linter.unusedSimpArgs false
namespace Go.Proofs.Ytolhbjfaahcekaa

def predsOf (o : Oper) : List Nat := (o.after.toList.filter (Region.binds .any)).map (·.on)
def isEff (ow : List Nat) (o : Oper) : Bool := !(pureO ow o || isLoad o)
def ordOK (ow : List Nat) (ops : Array Oper) : List Nat → List (Nat × List Nat) → Bool
  | _, [] => true
  | done, (i, chk) :: r => match ops[i]? with
    | none => false
    | some o => !done.contains i && (predsOf o).all done.contains && (!isEff ow o ||
        (r.all (fun j => match ops[j.1]? with
          | some oj => (predsOf oj).any fun p => p == i || (r.map (·.1)).contains p
          | none => false) &&
        done.all fun k => (predsOf o).contains k || chk.contains k || match ops[k]? with
          | some ok => pureO ow ok
          | none => false)) && ordOK ow ops (i :: done) r
def drawOK (nt : Nat) (ow : List Nat) (ops : Array Oper) (ord : List (Nat × List Nat)) : Bool :=
  (List.range ops.size).all (fun i => (ord.map (·.1)).contains i) &&
  (List.range ops.size).all (fun k => match ops[k]? with
    | some o => ((match o.dst with
      | some d => decide (d < nt)
      | none => true) && (predsOf o).all (fun p => decide (p < k))) && (List.range ops.size).all fun i => match ops[i]? with
      | some o' => match o'.dst with
        | some d => (!(o.looksAt ops).contains d || (predsOf o).contains i) && (i == k || o.dst != some d)
        | none => true
      | none => true
    | none => true) && ordOK ow ops [] ord

structure Sta (nt : Nat) (ow : List Nat) (ops : Array Oper) (done : List Nat) (r : List (Nat × List Nat)) : Prop where
  all : ∀ i, i < ops.size → i ∈ done ∨ i ∈ r.map (·.1)
  dst : ∀ (k : Nat) (o : Oper) (d : Tmp), ops[k]? = some o → o.dst = some d → d < nt
  less : ∀ k o, ops[k]? = some o → ∀ p ∈ predsOf o, p < k
  ssa : ∀ k o i o' d, ops[k]? = some o → ops[i]? = some o' → o'.dst = some d → (d ∈ o.looksAt ops → i ∈ predsOf o) ∧ (i ≠ k → o.dst ≠ some d)
  pre : ∀ (k : Nat), k ∈ done → ∀ ok : Oper, ops[k]? = some ok → ∀ p ∈ predsOf ok, p ∈ done
  ord : ordOK ow ops done r = true
theorem lt_size {ops : Array Oper} {k : Nat} {o : Oper} (h : ops[k]? = some o) : k < ops.size := (Array.getElem?_eq_some_iff.1 h).1
theorem Sta.of {nt : Nat} {ow : List Nat} {ops : Array Oper} {ord : List (Nat × List Nat)} (h : drawOK nt ow ops ord = true) : Sta nt ow ops [] ord := by
  unfold drawOK at h
  rw [Bool.and_eq_true, Bool.and_eq_true, List.all_eq_true, List.all_eq_true] at h
  obtain ⟨⟨h1, h2⟩, h3⟩ := h
  refine ⟨fun i hi => .inr ?_, fun k o d hk hd => ?_, fun k o hk p hp => ?_, fun k o i o' d hk hi hd => ?_, by simp, h3⟩
  · simpa using h1 i (List.mem_range.2 hi)
  · have := h2 k (List.mem_range.2 (lt_size hk))
    simp only [hk, hd, Bool.and_eq_true, List.all_eq_true] at this
    simpa using this.1.1
  · have := h2 k (List.mem_range.2 (lt_size hk))
    simp only [hk, Bool.and_eq_true, List.all_eq_true] at this
    simpa using this.1.2 p hp
  · have := h2 k (List.mem_range.2 (lt_size hk))
    simp only [hk, Bool.and_eq_true, List.all_eq_true] at this
    have := this.2 i (List.mem_range.2 (lt_size hi))
    simp only [hi, hd, Bool.and_eq_true, Bool.or_eq_true, Bool.not_eq_true', List.contains_eq_mem, decide_eq_true_eq, decide_eq_false_iff_not, beq_iff_eq, bne_iff_ne] at this
    exact ⟨fun hm => this.1.resolve_left fun hn => hn hm, fun hne => this.2.resolve_left hne⟩
theorem ordOK_not {ow : List Nat} {ops : Array Oper} : ∀ {r : List (Nat × List Nat)} {done : List Nat}, ordOK ow ops done r = true → ∀ j ∈ r.map (·.1), j ∉ done
  | [], done, _, j, hj => by simp at hj
  | (i, chk) :: r, done, h, j, hj => by
    unfold ordOK at h
    split at h
    · cases h
    · rename_i o ho
      simp only [Bool.and_eq_true] at h
      simp only [List.map_cons, List.mem_cons] at hj
      rcases hj with rfl | hj
      · simpa using h.1.1.1
      · have := ordOK_not h.2 j hj
        simp at this
        exact this.2
theorem Sta.next {nt : Nat} {ow : List Nat} {ops : Array Oper} {done : List Nat} {i : Nat} {chk : List Nat} {r : List (Nat × List Nat)} (h : Sta nt ow ops done ((i, chk) :: r)) :
    Sta nt ow ops (i :: done) r ∧ ∃ o, ops[i]? = some o ∧ i ∉ done ∧ (∀ p ∈ predsOf o, p ∈ done) ∧ (isEff ow o = true → (∀ j ∈ r.map (·.1), ∀ oj, ops[j]? = some oj → ∃ p ∈ predsOf oj, p = i ∨ p ∈ r.map (·.1)) ∧
      ∀ k ∈ done, k ∈ predsOf o ∨ k ∈ chk ∨ ∀ ok, ops[k]? = some ok → pureO ow ok = true) := by
  have ho := h.ord
  unfold ordOK at ho
  split at ho
  · cases ho
  · rename_i o hi
    simp only [Bool.and_eq_true] at ho
    obtain ⟨⟨⟨h1, h2⟩, h3⟩, h4⟩ := ho
    have h2' : ∀ p ∈ predsOf o, p ∈ done := by simpa using h2
    refine ⟨⟨fun j hj => ?_, h.dst, h.less, h.ssa, fun k hk ok hok p hp => ?_, h4⟩, o, hi, by simpa using h1, h2', fun he => ?_⟩
    · rcases h.all j hj with hd | hd
      · exact .inl (by simp [hd])
      · simp only [List.map_cons, List.mem_cons] at hd
        rcases hd with rfl | hd
        · exact .inl (by simp)
        · exact .inr hd
    · simp only [List.mem_cons] at hk ⊢
      rcases hk with rfl | hk
      · rw [hi] at hok
        cases hok
        exact .inr (h2' p hp)
      · exact .inr (h.pre k hk ok hok p hp)
    · rw [he] at h3
      simp only [Bool.not_true, Bool.false_or, Bool.and_eq_true, List.all_eq_true] at h3
      refine ⟨fun j hj oj hoj => ?_, fun k hk => ?_⟩
      · obtain ⟨p, hp, rfl⟩ := List.mem_map.1 hj
        have := h3.1 p hp
        simp only [hoj, List.any_eq_true, Bool.or_eq_true, beq_iff_eq, List.contains_eq_mem, decide_eq_true_eq] at this
        exact this
      · have := h3.2 k hk
        simp only [Bool.or_eq_true, List.contains_eq_mem, decide_eq_true_eq, or_assoc] at this
        rcases this with h | h | h
        · exact .inl h
        · exact .inr (.inl h)
        · refine .inr (.inr fun ok hok => ?_)
          rw [hok] at h
          exact h

/-- What has been read early and not yet by the machine. -/
def Pnd (tt : TTab) (ow : List Nat) (nt : Nat) (ops : Array Oper) (E : Env) (st : St) (k : Nat) : Prop :=
  ∃ o x, ops[k]? = some o ∧ stepW tt ow nt ops o E st = some (put nt o.dst E x, st) ∧ ∀ t, eg (put nt o.dst E x) t = eg E t
def hs (ops : Array Oper) (listed : Array Bool) (done : List Nat) : List Tmp := done.filterMap fun k => if listed.getD k true then none else (ops[k]?).bind (·.dst)
def hide (l : List Tmp) : Env → Env
  | [] => []
  | (j, x) :: r => if j ∈ l then hide l r else (j, x) :: hide l r
theorem eg_hide (l : List Tmp) (t : Tmp) : ∀ E : Env, eg (hide l E) t = if t ∈ l then none else eg E t
  | [] => by simp [hide, eg]
  | (j, x) :: r => by
    simp only [hide]
    by_cases hj : j ∈ l
    · rw [if_pos hj, eg_hide l t r]
      by_cases ht : t ∈ l
      · simp [ht]
      · have : (t == j) = false := by
          simp only [beq_eq_false_iff_ne]
          rintro rfl
          exact ht hj
        simp [ht, eg, this]
    · rw [if_neg hj]
      simp only [eg, eg_hide l t r]
      by_cases ht : t = j
      · subst ht; simp [hj]
      · have : (t == j) = false := by simpa using ht
        rw [this]
        rfl
theorem mem_hs {ops : Array Oper} {listed : Array Bool} {done : List Nat} {t : Tmp} : t ∈ hs ops listed done ↔ ∃ k ∈ done, listed.getD k true = false ∧ ∃ o, ops[k]? = some o ∧ o.dst = some t := by
  unfold hs
  rw [List.mem_filterMap]
  constructor
  · rintro ⟨k, hk, h⟩
    split at h
    · cases h
    · rename_i hl
      obtain ⟨o, h1, h2⟩ := Option.bind_eq_some_iff.1 h
      exact ⟨k, hk, by simpa using hl, o, h1, h2⟩
  · rintro ⟨k, hk, hl, o, h1, h2⟩
    exact ⟨k, hk, by rw [if_neg (by rw [hl]; simp), h1]; exact h2⟩
theorem ARep.of_get {G : Gh} {nt : Nat} {E F : Env} {a : Act} (r : ARep G nt F a) (h : ∀ t x, eg E t = some x → eg F t = some x) : ARep G nt E a :=
  ⟨r.defers, r.size, fun i x e => r.get i x (by rw [← eg_eq] at e ⊢; exact h i x e)⟩
theorem mem_ready' {ops : Array Oper} {listed : Array Bool} {j : Nat} : j ∈ Region.ready .any ops listed ↔ listed.getD j true = false ∧ ∃ o, ops[j]? = some o ∧ ∀ p ∈ predsOf o, listed.getD p false = true := by
  rw [mem_ready]
  constructor
  · rintro ⟨h1, o, h2, h3⟩
    refine ⟨h1, o, h2, fun p hp => ?_⟩
    simp only [predsOf, List.mem_map, List.mem_filter] at hp
    obtain ⟨e, ⟨he, hb⟩, rfl⟩ := hp
    exact h3 e (by simpa using he) hb
  · rintro ⟨h1, o, h2, h3⟩
    refine ⟨h1, o, h2, fun e he hb => h3 e.on ?_⟩
    simp only [predsOf, List.mem_map, List.mem_filter]
    exact ⟨e, ⟨by simpa using he, hb⟩, rfl⟩
theorem unlisted {listed : Array Bool} {i : Nat} : listed.getD i true = false ↔ listed[i]? = some false := by
  rw [Array.getD_eq_getD_getElem?]
  cases h : listed[i]? with
  | none => simp
  | some b => simp
theorem islisted {listed : Array Bool} {i : Nat} : listed.getD i false = true ↔ listed[i]? = some true := by
  rw [Array.getD_eq_getD_getElem?]
  cases h : listed[i]? with
  | none => simp
  | some b => simp
theorem count_set {listed : Array Bool} {i : Nat} (h : listed[i]? = some false) : (listed.setIfInBounds i true).toList.count false + 1 = listed.toList.count false := by
  obtain ⟨hlt, hi⟩ := Array.getElem?_eq_some_iff.1 h
  rw [Array.toList_setIfInBounds, List.count_set (by simpa using hlt)]
  have h1 : listed.toList[i]'(by simpa using hlt) = false := by simpa using hi
  rw [h1]
  have : 0 < listed.toList.count false := List.count_pos_iff.2 (by rw [← h1]; exact List.getElem_mem _)
  simp only [beq_self_eq_true, if_true, Bool.true_beq, Bool.false_eq_true, if_false]
  omega
theorem count_zero {listed : Array Bool} (h : ∀ i, i < listed.size → listed[i]? = some true) : listed.toList.count false = 0 := by
  rw [List.count_eq_zero]
  intro hm
  obtain ⟨i, hi, he⟩ := List.mem_iff_getElem.1 hm
  have := h i (by simpa using hi)
  rw [Array.getElem?_eq_getElem (by simpa using hi)] at this
  simp at he
  simp [he] at this
theorem all_listed {nt : Nat} {ow : List Nat} {ops : Array Oper} {done : List Nat} {r : List (Nat × List Nat)} (s : Sta nt ow ops done r) {listed : Array Bool} (hsz : listed.size = ops.size) (hr : Region.ready .any ops listed = []) : ∀ i, i < listed.size → listed[i]? = some true := by
  intro i
  induction i using Nat.strongRecOn with
  | _ i ih =>
    intro hi
    cases hl : listed[i]? with
    | none => rw [Array.getElem?_eq_none_iff] at hl; omega
    | some b =>
      cases b with
      | true => rfl
      | false =>
        exfalso
        have ho : ∃ o, ops[i]? = some o := ⟨ops[i]'(by omega), Array.getElem?_eq_getElem _⟩
        obtain ⟨o, ho⟩ := ho
        have : i ∈ Region.ready .any ops listed := mem_ready'.2 ⟨unlisted.2 hl, o, ho, fun p hp => islisted.2 (ih p (s.less i o ho p hp) (by have := s.less i o ho p hp; omega))⟩
        rw [hr] at this
        cases this

section
variable {P : Program} {tt : TTab} {nt : Nat} {ow : List Nat} {ops : Array Oper}
def DO (P : Program) (tt : TTab) (ow : List Nat) (nt : Nat) (ops : Array Oper) (done : List Nat) (r : List (Nat × List Nat)) (E : Env) (st : St) (K : Env → St → Prop) : Prop :=
  ∀ listed a w G Q, listed.size = ops.size → (∀ i, listed[i]? = some true → i ∈ done) → (∀ k ∈ done, listed[k]? = some false → Pnd tt ow nt ops E st k) →
    Inv G st w → ARep G nt (hide (hs ops listed done) E) a → Goes G nt K (Q .normal) → wpAny P .any ops Q (listed.toList.count false) listed a w
theorem want_ok {G : Gh} {F : Env} {a : Act} {o : Oper} {b : Bool} (ha : ARep G nt F a) (h : wantF ops o F = some b) : Region.wanted o (yielded ops a.tmps) = b := by
  unfold wantF at h
  unfold Region.wanted
  split at h
  · rename_i hg
    rw [hg]
    injection h
  · rename_i j want hg
    rw [hg]
    simp only
    split at h
    · rename_i d hd
      split at h
      · rename_i x hc
        rw [eg_eq] at hc
        obtain ⟨v, hv1, hv2⟩ := ha.get d _ hc
        rw [gdOf_eq] at hd
        have := gval_ok h hv2
        simp only [yielded, hd, Option.bind_some, hv1]
        rw [← this]
        cases v <;> rfl
      · cases h
    · cases h
theorem wpOp_of (ht : TT P tt) {G : Gh} {F : Env} {st : St} {a : Act} {w : World} {o : Oper} {i : Nat} {K : Env → St → Prop} {Q : Exit → Act → World → Prop} {next : Act → World → Prop}
    (hi : Inv G st w) (ha : ARep G nt F a) (ho : ops[i]? = some o) (hw : wantF ops o F = some true) (h : pOp P tt ow nt o F st K) (hn : Goes G nt K next) : wpOp P ops Q i next a w := by
  unfold wpOp
  simp only [ho, want_ok ha hw, if_true]
  exact .inl (pOp_ok ht h hi ha hn)
theorem callOf_not {E : Env} {o : Oper} (h : callOf E o.op = none) : isCall o.op = false := by
  unfold callOf at h
  unfold isCall
  split
  · rename_i c ho
    split
    · rename_i f hf
      simp only [ho, hf] at h
      (repeat' split at h) <;> cases h
    · rfl
  · rfl
theorem stepW_wp (ht : TT P tt) {G : Gh} {F F' : Env} {st st' : St} {a : Act} {w : World} {o : Oper} {i : Nat} {Q : Exit → Act → World → Prop} {next : Act → World → Prop}
    (hi : Inv G st w) (ha : ARep G nt F a) (ho : ops[i]? = some o) (h : stepW tt ow nt ops o F st = some (F', st')) (hn : Goes G nt (fun E s => E = F' ∧ s = st') next) : wpOp P ops Q i next a w := by
  unfold stepW at h
  split at h
  · rename_i hw
    split at h
    · exact wpOp_of ht hi ha ho hw (stepF_ok h ⟨rfl, rfl⟩) hn
    · cases h
  · rename_i hw
    cases h
    unfold wpOp
    simp only [ho, want_ok ha hw, Bool.false_eq_true, if_false]
    exact hn _ _ _ _ _ (.refl _) hi (ha.put (.val undef) o.dst) ⟨rfl, rfl⟩
  · cases h
theorem Pnd.put (s : ∀ k o i o' d, ops[k]? = some o → ops[i]? = some o' → o'.dst = some d → (d ∈ o.looksAt ops → i ∈ predsOf o) ∧ (i ≠ k → o.dst ≠ some d)) {E : Env} {st : St} {k i : Nat} {o : Oper} {x : PV} (h : Pnd tt ow nt ops E st k) (ho : ops[i]? = some o) (hne : i ≠ k) (hnp : ∀ ok, ops[k]? = some ok → i ∉ predsOf ok) :
    Pnd tt ow nt ops (put nt o.dst E x) st k := by
  obtain ⟨ok, y, h1, h2, h3⟩ := h
  have hl : ∀ t ∈ ok.looksAt ops, eg (Go.Proofs.Ytolhbjfaahcekaa.put nt o.dst E x) t = eg E t := by
    intro t ht
    rw [eg_put, if_neg]
    rintro ⟨h4, _⟩
    exact hnp ok h1 ((s k ok i o t h1 ho h4).1 ht)
  obtain ⟨z, e1, e2⟩ := stepW_congr hl h2
  refine ⟨ok, z, h1, e2, fun t => ?_⟩
  rw [e1] at h3
  have := h3 t
  rw [eg_put] at this ⊢
  split
  · rename_i hd
    rw [if_pos hd] at this
    rw [this, eg_put, if_neg]
    rintro ⟨h4, _⟩
    exact (s k ok i o t h1 ho h4).2 hne hd.1
  · rfl
theorem Pnd.pure {E : Env} {st st' : St} {k : Nat} (h : Pnd tt ow nt ops E st k) (hp : ∀ ok, ops[k]? = some ok → pureO ow ok = true) : Pnd tt ow nt ops E st' k := by
  obtain ⟨ok, y, h1, h2, h3⟩ := h
  exact ⟨ok, y, h1, (stepW_pure (hp ok h1) h2 st').2, h3⟩
/-- What an effect comes to. -/
def EffS (P : Program) (tt : TTab) (ow : List Nat) (nt : Nat) (ops : Array Oper) (done : List Nat) (e : Nat) (chk : List Nat) (r : List (Nat × List Nat)) (E : Env) (st : St) (K : Env → St → Prop) : Prop :=
  ∃ o, ops[e]? = some o ∧ isEff ow o = true ∧ ∀ F, (∀ t ∈ o.looksAt ops, eg F t = eg E t) → wantF ops o F = some true ∧
    pOp P tt ow nt o F st fun F' st' => ∃ x, F' = put nt o.dst F x ∧ (∀ k ∈ chk, Pnd tt ow nt ops (put nt o.dst E x) st' k) ∧ DO P tt ow nt ops (e :: done) r (put nt o.dst E x) st' K
theorem DO.core (ht : TT P tt) {done : List Nat} {r : List (Nat × List Nat)} {E : Env} {st : St} {K : Env → St → Prop} (s : Sta nt ow ops done r) (hend : r = [] → K E st)
    (heff : ∀ e chk r', r = (e, chk) :: r' → EffS P tt ow nt ops done e chk r' E st K) : DO P tt ow nt ops done r E st K := by
  intro listed a w G Q hsz hsub hpd hi ha hq
  generalize hn : listed.toList.count false = n
  have key : ∀ listed : Array Bool, listed.size = ops.size → (∀ i, listed[i]? = some true → i ∈ done) → (∀ i, i < listed.size → listed[i]? = some true) → r = [] := by
    intro listed hsz hsub hall
    cases hr : r with
    | nil => rfl
    | cons p r' =>
      obtain ⟨e, chk⟩ := p
      subst hr
      obtain ⟨o, ho, hnd, _⟩ := s.next.2
      exact absurd (hsub e (hall e (by have := lt_size ho; omega))) hnd
  induction n generalizing listed a w G with
  | zero =>
    have hall : ∀ i, i < listed.size → listed[i]? = some true := by
      intro i hlt
      cases hl : listed[i]? with
      | none => rw [Array.getElem?_eq_none_iff] at hl; omega
      | some b =>
        cases b with
        | true => rfl
        | false => have := count_set hl; omega
    refine ⟨?_, ?_⟩
    · cases hr : Region.ready .any ops listed with
      | nil => rfl
      | cons j js =>
        have hj : j ∈ Region.ready .any ops listed := by rw [hr]; simp
        obtain ⟨h1, _⟩ := mem_ready'.1 hj
        rw [unlisted] at h1
        rw [hall j (Array.getElem?_eq_some_iff.1 h1).1] at h1
        cases h1
    · refine hq G E st a w (.refl G) hi (ha.of_get fun t x e => ?_) (hend (key listed hsz hsub hall))
      rw [eg_hide, if_neg]
      · exact e
      · intro hm
        obtain ⟨k, _, hk, _⟩ := mem_hs.1 hm
        rw [unlisted] at hk
        rw [hall k (Array.getElem?_eq_some_iff.1 hk).1] at hk
        cases hk
  | succ n ih =>
    refine ⟨fun hr => ?_, fun i hready => ?_⟩
    · have := count_zero (all_listed s hsz hr)
      omega
    obtain ⟨hun, o, ho, hpr⟩ := mem_ready'.1 hready
    have hun' := unlisted.1 hun
    have hlook : ∀ t ∈ o.looksAt ops, eg (hide (hs ops listed done) E) t = eg E t := by
      intro t hto
      rw [eg_hide, if_neg]
      intro hm
      obtain ⟨k, hk, hku, ok, hok, hd⟩ := mem_hs.1 hm
      have := hpr k ((s.ssa i o k ok t ho hok hd).1 hto)
      rw [islisted] at this
      rw [unlisted] at hku
      rw [this] at hku
      cases hku
    have hcount : (listed.setIfInBounds i true).toList.count false = n := by have := count_set hun'; omega
    have hget : ∀ j, (listed.setIfInBounds i true)[j]? = if j = i then some true else listed[j]? := by
      intro j
      rw [Array.getElem?_setIfInBounds]
      by_cases h : i = j
      · subst h
        have := (Array.getElem?_eq_some_iff.1 hun').1
        simp [this]
      · rw [if_neg h, if_neg (Ne.symm h)]
    by_cases hid : i ∈ done
    · obtain ⟨o', x, ho', hst, hsame⟩ := hpd i hid hun'
      rw [ho] at ho'
      cases ho'
      obtain ⟨y, e1, e2⟩ := stepW_congr hlook hst
      rw [e1] at hsame
      refine stepW_wp ht hi ha ho e2 ?_
      rintro G' _ _ a' w' hle hi' ha' ⟨rfl, rfl⟩
      refine ih (listed.setIfInBounds i true) a' w' G' (by simpa using hsz) ?_ ?_ hi' ?_ ?_ hcount
      · intro j hj
        rw [hget] at hj
        split at hj
        · rename_i h; rw [h]; exact hid
        · exact hsub j hj
      · intro k hk hku
        rw [hget] at hku
        split at hku
        · cases hku
        · exact hpd k hk hku
      · refine ha'.of_get fun t z hz => ?_
        rw [eg_hide] at hz
        split at hz
        · cases hz
        · rename_i hnm
          rw [eg_put]
          split
          · rename_i hd
            have := hsame t
            rw [eg_put, if_pos hd] at this
            rw [this]
            exact hz
          · rename_i hd
            rw [eg_hide, if_neg]
            · exact hz
            · intro hm
              obtain ⟨k, hk, hku, ok, hok, hdk⟩ := mem_hs.1 hm
              by_cases hki : k = i
              · subst hki
                rw [ho] at hok
                cases hok
                exact hd ⟨hdk, s.dst k o t ho hdk⟩
              · exact hnm (mem_hs.2 ⟨k, hk, by rw [unlisted] at hku ⊢; rw [hget, if_neg hki]; exact hku, ok, hok, hdk⟩)
      · exact fun G2 env2 st2 a2 w2 m1 m2 m3 m4 => hq G2 env2 st2 a2 w2 (hle.trans m1) m2 m3 m4
    · rcases s.all i (lt_size ho) with h | h
      · exact absurd h hid
      cases hr : r with
      | nil => rw [hr] at h; simp at h
      | cons p r' =>
        obtain ⟨e, chk⟩ := p
        obtain ⟨oe, hoe, heffe, hstep⟩ := heff e chk r' hr
        subst hr
        obtain ⟨s', oe', hoe', hnd, hpe, hblk⟩ := s.next
        rw [hoe] at hoe'
        cases hoe'
        obtain ⟨hblk, hchk⟩ := hblk heffe
        have hie : i = e := by
          simp only [List.map_cons, List.mem_cons] at h
          rcases h with h | h
          · exact h
          · exfalso
            obtain ⟨p, hp, hpp⟩ := hblk i h o ho
            have hpd' := hsub p (islisted.1 (hpr p hp))
            rcases hpp with rfl | hpp
            · exact hnd hpd'
            · exact ordOK_not s'.ord p hpp (by simp [hpd'])
        subst hie
        rw [ho] at hoe
        cases hoe
        obtain ⟨hwant, hop⟩ := hstep _ hlook
        refine wpOp_of ht hi ha ho hwant hop ?_
        rintro G' _ st' a' w' hle hi' ha' ⟨x, rfl, hck, hdo⟩
        rw [← hcount]
        refine hdo (listed.setIfInBounds i true) a' w' G' Q (by simpa using hsz) ?_ ?_ hi' ?_ ?_
        · intro j hj
          rw [hget] at hj
          split at hj
          · rename_i h; rw [h]; simp
          · simp [hsub j hj]
        · intro k hk hku
          rw [hget] at hku
          split at hku
          · cases hku
          · rename_i hki
            simp only [List.mem_cons] at hk
            rcases hk with hk | hk
            · exact absurd hk hki
            · rcases hchk k hk with h1 | h1 | h1
              · have := hpr k h1
                rw [islisted] at this
                rw [this] at hku
                cases hku
              · exact hck k h1
              · refine ((hpd k hk hku).put s.ssa ho (Ne.symm hki) ?_).pure h1
                intro ok hok hm
                exact hnd (s.pre k hk ok hok i hm)
        · refine ha'.of_get fun t z hz => ?_
          rw [eg_hide] at hz
          split at hz
          · cases hz
          · rename_i hnm
            rw [eg_put] at hz ⊢
            split
            · rename_i hd
              rw [if_pos hd] at hz
              exact hz
            · rename_i hd
              rw [if_neg hd] at hz
              rw [eg_hide, if_neg]
              · exact hz
              · intro hm
                obtain ⟨k, hk, hku, ok, hok, hdk⟩ := mem_hs.1 hm
                have hki : k ≠ i := by rintro rfl; exact hnd hk
                exact hnm (mem_hs.2 ⟨k, by simp [hk], by rw [unlisted] at hku ⊢; rw [hget, if_neg hki]; exact hku, ok, hok, hdk⟩)
        · exact fun G2 env2 st2 a2 w2 m1 m2 m3 m4 => hq G2 env2 st2 a2 w2 (hle.trans m1) m2 m3 m4
theorem DO.read {done : List Nat} {i : Nat} {chk : List Nat} {r : List (Nat × List Nat)} {E : Env} {st : St} {K : Env → St → Prop} {o : Oper} {x : PV} (s : Sta nt ow ops done ((i, chk) :: r)) (ho : ops[i]? = some o)
    (hst : stepW tt ow nt ops o E st = some (put nt o.dst E x, st)) (h : DO P tt ow nt ops (i :: done) r (put nt o.dst E x) st K) : DO P tt ow nt ops done ((i, chk) :: r) E st K := by
  intro listed a w G Q hsz hsub hpd hi ha hq
  obtain ⟨s', o', ho', hnd, hpe, _⟩ := s.next
  rw [ho] at ho'
  cases ho'
  have hun : listed[i]? = some false := by
    cases hl : listed[i]? with
    | none => rw [Array.getElem?_eq_none_iff] at hl; have := lt_size ho; omega
    | some b =>
      cases b with
      | true => exact absurd (hsub i hl) hnd
      | false => rfl
  refine h listed a w G Q hsz (fun j hj => by simp [hsub j hj]) ?_ hi ?_ hq
  · intro k hk hku
    simp only [List.mem_cons] at hk
    by_cases hki : k = i
    · subst hki
      have hl : ∀ t ∈ o.looksAt ops, eg (put nt o.dst E x) t = eg E t := by
        intro t hto
        rw [eg_put, if_neg]
        rintro ⟨h4, _⟩
        have := s.less k o ho k ((s.ssa k o k o t ho ho h4).1 hto)
        omega
      obtain ⟨y, e1, e2⟩ := stepW_congr hl hst
      refine ⟨o, y, ho, e2, fun t => ?_⟩
      have e3 : eg (put nt o.dst E x) t = eg (put nt o.dst E y) t := congrArg (fun E => eg E t) e1
      rw [eg_put] at e3 ⊢
      by_cases hd : o.dst = some t ∧ t < nt
      · rw [if_pos hd] at e3 ⊢
        rw [eg_put, if_pos hd] at e3 ⊢
        exact e3.symm
      · rw [if_neg hd]
    · refine (hpd k (hk.resolve_left hki) hku).put s.ssa ho (Ne.symm hki) ?_
      intro ok hok hm
      exact hnd (s.pre k (hk.resolve_left hki) ok hok i hm)
  · refine ha.of_get fun t z hz => ?_
    rw [eg_hide] at hz ⊢
    split at hz
    · cases hz
    · rename_i hnm
      rw [if_neg]
      · rw [eg_put, if_neg] at hz
        · exact hz
        · rintro ⟨h4, _⟩
          exact hnm (mem_hs.2 ⟨i, by simp, unlisted.2 hun, o, ho, h4⟩)
      · intro hm
        obtain ⟨k, hk, hku⟩ := mem_hs.1 hm
        exact hnm (mem_hs.2 ⟨k, by simp [hk], hku⟩)
def chkF (tt : TTab) (nt : Nat) (ops : Array Oper) (E : Env) (st : St) : List Nat → Prop
  | [] => True
  | k :: ks => (match ops.toList[k]? with
    | some ⟨some d, .load T a, _, _, _, none⟩ => match vl E a with
      | some p => match tt T with
        | some y => match ldPV y st p with
          | some x => eg E d = some x
          | none => False
        | none => False
      | none => False
    | _ => False) ∧ chkF tt nt ops E st ks
theorem chkF_ok {E : Env} {st : St} (hnt : ∀ (k : Nat) (o : Oper) (d : Tmp), ops[k]? = some o → o.dst = some d → d < nt) : ∀ {l : List Nat}, chkF tt nt ops E st l → ∀ k ∈ l, Pnd tt ow nt ops E st k
  | [], _, k, hk => by simp at hk
  | j :: l, h, k, hk => by
    simp only [List.mem_cons] at hk
    unfold chkF at h
    rcases hk with rfl | hk
    · have h1 := h.1
      split at h1
      · rename_i d T a ty pos af ho
        rw [Array.getElem?_toList] at ho
        split at h1
        · rename_i p hp
          split at h1
          · rename_i y hy
            split at h1
            · rename_i x hx
              refine ⟨_, x, ho, ?_, fun t => ?_⟩
              · simp only [stepW, wantF, callOf, stepF, hp, hy, hx]
              · rw [eg_put]
                split
                · rename_i hd
                  obtain ⟨hd, _⟩ := hd
                  injection hd with hd
                  rw [← hd, h1]
                · rfl
            · exact h1.elim
          · exact h1.elim
        · exact h1.elim
      · exact h1.elim
    · exact chkF_ok hnt h.2 k hk
def GO (P : Program) (tt : TTab) (ow : List Nat) (nt : Nat) (ops : Array Oper) (done : List Nat) (r : List (Nat × List Nat)) (E : Env) (st : St) (K : Env → St → Prop) : Prop := Sta nt ow ops done r → DO P tt ow nt ops done r E st K
def drawH (P : Program) (tt : TTab) (ow : List Nat) (nt : Nat) (ops : Array Oper) : List Nat → List (Nat × List Nat) → Env → St → (Env → St → Prop) → Prop
  | _, [], E, st, K => K E st
  | done, (i, chk) :: r, E, st, K => match ops.toList[i]? with
    | some o => match wantF ops o E with
      | some true => match callOf E o.op with
        | some (some (f, args)) => PC P f args st fun x st' => chkF tt nt ops (put nt o.dst E x) st' chk ∧ GO P tt ow nt ops (i :: done) r (put nt o.dst E x) st' K
        | some none => False
        | none => match stepF tt ow nt o E st with
          | some (E', st') => match isEff ow o with
            | true => chkF tt nt ops E' st' chk ∧ drawH P tt ow nt ops (i :: done) r E' st' K
            | false => drawH P tt ow nt ops (i :: done) r E' st' K
          | none => False
      | some false => drawH P tt ow nt ops (i :: done) r (put nt o.dst E (.val undef)) st K
      | none => False
    | none => False
theorem callEff {E : Env} {o : Oper} {z} (h : callOf E o.op = some z) : isEff ow o = true := by
  unfold callOf at h
  split at h
  · rename_i c ho
    split at h
    · rename_i f hf
      simp only [isEff, pureO, isLoad, ho, hf]
      rfl
    · cases h
  · cases h
theorem GO.go (ht : TT P tt) : ∀ {r : List (Nat × List Nat)} {done : List Nat} {E : Env} {st : St} {K : Env → St → Prop}, drawH P tt ow nt ops done r E st K → GO P tt ow nt ops done r E st K
  | [], done, E, st, K, h, s => DO.core ht s (fun _ => h) (by intro e chk r' he; cases he)
  | (i, chk) :: r, done, E, st, K, h, s => by
    unfold drawH at h
    split at h
    · rename_i o ho
      rw [Array.getElem?_toList] at ho
      split at h
      · rename_i hw
        split at h
        · rename_i f args hc
          refine DO.core ht s (by intro e; cases e) ?_
          rintro _ _ _ ⟨⟩
          refine ⟨o, ho, callEff hc, fun F hF => ⟨by rw [wantF_congr hF]; exact hw, ?_⟩⟩
          rw [← callOf_congr (looks_vl hF)] at hc
          unfold callOf at hc
          split at hc
          · rename_i c hoc
            split at hc
            · rename_i g hg
              split at hc
              · rename_i fn fs cs hf
                split at hc
                · rename_i ags has
                  cases hc
                  simp only [pOp, hoc, hg]
                  exact ⟨f, fs, cs, ags, by rw [← vl_eq]; exact hf, by rw [← vls_eq]; exact has, h.mono fun x st' hx => ⟨x, rfl, chkF_ok s.dst hx.1, hx.2 s.next.1⟩⟩
                · cases hc
              · cases hc
            · cases hc
          · cases hc
        · exact h.elim
        · rename_i hc
          split at h
          · rename_i E' st' hst
            split at h
            · rename_i he
              refine DO.core ht s (by intro e; cases e) ?_
              rintro _ _ _ ⟨⟩
              refine ⟨o, ho, he, fun F hF => ⟨by rw [wantF_congr hF]; exact hw, ?_⟩⟩
              obtain ⟨x, rfl, e2⟩ := stepF_congr (looks_vl hF) hst
              exact stepF_ok e2 ⟨x, rfl, chkF_ok s.dst h.1, GO.go ht h.2 s.next.1⟩
            · rename_i he
              obtain ⟨x, rfl, e2⟩ := stepF_congr (fun _ _ => rfl) hst
              have hsw : stepW tt ow nt ops o E st = some (put nt o.dst E x, st') := by
                unfold stepW
                (try simp only [hw, hc])
                exact hst
              have hss : st' = st := by
                simp only [isEff, Bool.not_eq_false', Bool.or_eq_true] at he
                rcases he with he | he
                · exact (stepW_pure he hsw st).1
                · exact stepW_load he hsw
              subst hss
              exact DO.read s ho hsw (GO.go ht h s.next.1)
          · exact h.elim
      · rename_i hw
        refine DO.read s ho ?_ (GO.go ht h s.next.1)
        unfold stepW
        rw [hw]
      · exact h.elim
    · exact h.elim
theorem Inv.drew {G : Gh} {st : St} {w : World} (h : Inv G st w) (n : Nat) : Inv G st { w with drawn := n } :=
  ⟨⟨h.kept.os, h.kept.tape, h.kept.output, h.kept.size, h.kept.block⟩, h.dat, h.rlen, h.box, h.inj, h.own, h.apart, h.fresh⟩
theorem PW.draw (ht : TT P tt) (hm : P.follows .mixedOrders = true) (ow : List Nat) {id : Nat} {Q : Exit → Env → St → Prop} {env : Env} {st : St} (ord : List (Nat × List Nat)) (hok : drawOK nt ow ops ord = true)
    (h : ∀ K : Env → St → Prop, (∀ env st, Q .normal env st → K env st) → drawH P tt ow nt ops [] ord env st K) : PW P nt (.region id ops true) Q env st := by
  intro G a w hi ha
  refine wp_region_any hm ?_
  have h1 := GO.go ht (h _ fun _ _ h => h) (Sta.of hok) (Array.replicate ops.size false) a _ G (PostE G nt Q) (by simp) (by
    intro i hi
    rw [Array.getElem?_replicate] at hi
    split at hi <;> cases hi) (by simp) (hi.drew (w.drawn + 1)) (ha.of_get fun t x e => by
    rw [eg_hide] at e
    split at e
    · cases e
    · exact e) fun G' env' st' a' w' h1 h2 h3 h4 => ⟨G', env', st', h1, h2, h3, h4⟩
  have hc : (Array.replicate ops.size false).toList.count false = ops.size := by simp
  rw [hc] at h1
  exact h1
/-- A region in any order, and what stands behind it under a name. -/
theorem PW.draws (ht : TT P tt) (hm : P.follows .mixedOrders = true) (ow : List Nat) {id : Nat} {y : Code} {Q : Exit → Env → St → Prop} {env : Env} {st : St} (ord : List (Nat × List Nat)) (hok : drawOK nt ow ops ord = true)
    (h : ∀ K : Env → St → Prop, (∀ env st, PW P nt y Q env st → K env st) → drawH P tt ow nt ops [] ord env st K) : PW P nt (.seq (.region id ops true) y) Q env st :=
  PW.seq_k fun K hK => PW.draw ht hm ow ord hok fun K' hK' => h K' fun env st hp => hK' env st (hK env st hp)
end
end Go.Proofs.Ytolhbjfaahcekaa
end
section
/- A scope without a jump back. -/
set_option linter.unusedVariables false
set_option linter.unusedSimpArgs false
namespace Go.Proofs.Ytolhbjfaahcekaa
def NoGoto (Q : Exit → Env → St → Prop) : Exit → Env → St → Prop
  | .goto _, _, _ => False
  | e, env, st => Q e env st
theorem PW.scope {P : Program} {nt : Nat} {Q : Exit → Env → St → Prop} {env : Env} {st : St} {c : Code} (h : PW P nt c (NoGoto Q) env st) : PW P nt (.scope c) Q env st := by
  intro G a w hi ha
  refine wp_scope_straight (wp_mono (h G a w hi ha) fun e a w p => ?_)
  obtain ⟨G', env', st', h1, h2, h3, h4⟩ := p
  cases e <;> first | exact h4.elim | exact ⟨G', env', st', h1, h2, h3, h4⟩
/-- One more object, with nothing in it: what was nil may be taken for it (Weak.nil). -/
theorem PW.adopt {P : Program} {nt : Nat} {Q : Exit → Env → St → Prop} {env : Env} {st : St} {c : Code} (h : PW P nt c Q env { st with len := st.len ++ [0] }) : PW P nt c Q env st :=
  fun G a w hi ha => h G a w hi.addLen ha
end Go.Proofs.Ytolhbjfaahcekaa
end
section
/- The rules as one set of rewrites. -/
set_option linter.unusedVariables false
set_option linter.unusedSimpArgs false
namespace Go.Proofs.Ytolhbjfaahcekaa
attribute [go_sem ↓] drawH chkF wantF isEff pureO isLoad runF callOf stepF
attribute [go_sem] Bool.or_false Bool.or_true Bool.false_or Bool.true_or Holds gval_undef gval_bool put vl vls vlo vlParts eg ofC argsEnv owns fBin pNil fCut fField fldOf ldPV stPV splice fillPV dense cells_int isAgg_int isCell_int cells_bool isAgg_bool isCell_bool cells_str isAgg_str isCell_str cells_list isAgg_list isCell_list cells_ref isAgg_ref isCell_ref cells_elem isAgg_elem isCell_elem cells_agg isAgg_agg isCell_agg cells_tup isAgg_tup isCell_tup cells_clo isAgg_clo isCell_clo cells_val isAgg_val isCell_val gdOf resAll resOne resPV cond_true cond_false beq_self_eq_true List.getElem?_cons_zero List.getElem?_cons_succ List.getElem?_nil List.length_cons List.length_nil List.length_append List.length_map List.length_set List.set_cons_zero List.set_cons_succ List.take_succ_cons List.take_zero List.drop_succ_cons List.drop_zero List.take_nil List.drop_nil List.cons_append List.nil_append List.append_nil List.map_cons List.map_nil List.all_cons List.all_nil List.contains_cons List.contains_nil List.getElem?_map List.getElem?_append List.toList_toArray beq_true beq_false Option.some.injEq Option.bind_some Option.map_some Option.map_none exists_eq_left' exists_eq' exists_eq exists_eq_left exists_and_left exists_and_right and_true true_and if_true if_false ite_true ite_false Bool.and_true Bool.true_and Bool.and_self Bool.not_true Bool.not_false Bool.false_eq_true decide_true decide_false eq_self PV.int.injEq PV.list.injEq PV.clo.injEq PV.agg.injEq PV.str.injEq PV.bool.injEq PV.ref.injEq TK.slice.injEq Fn.func.injEq and_assoc forall_eq forall_const true_implies Nat.le_refl Nat.zero_add Nat.add_zero Int.toNat_zero Int.toNat_one ne_eq not_false_eq_true not_true_eq_false Nat.lt_irrefl and_self Int.le_refl List.mem_cons List.not_mem_nil or_false forall_eq_or_imp Nat.succ_ne_self
end Go.Proofs.Ytolhbjfaahcekaa
end
section
/- The parser's reader: its small functions. -/
set_option linter.unusedVariables false
set_option linter.unusedSimpArgs false
namespace Go.Proofs.Ytolhbjfaahcekaa
open Go

theorem mixed : Try.prog.follows .mixedOrders = true := by kernel_rfl
structure Tok where
  kind : Int
  text : List UInt8
  num : Int
  at_ : Int
def tokPV (t : Tok) : PV := .agg [.int .i64 t.kind, .str t.text, .int .i64 t.num, .int .i64 t.at_]
def rdPV (ts : List Tok) (d c a : Int) : List PV := [.list 4 (ts.map tokPV) .no, .int .i64 d, .int .i64 c, .int .i64 a]
theorem tok_clean (n m : Nat) (t : Tok) : PV.clean n m (tokPV t) = true := rfl

theorem rd_clean (ts : List Tok) (d c a : Int) : PVs.clean 0 0 (rdPV ts d c a) = true := by
  simp only [rdPV, PVs.clean, PV.clean, clean_map (tok_clean 0 0)]; rfl

theorem next_pc (t : Tok) (ts : List Tok) (d c a : Int) :
    One Try.prog 21 [.ref 0 0] (rdPV (t :: ts) d c a) (fun r cs => r = tokPV t ∧ cs = rdPV (t :: ts) d c a) := by
  refine PC.intro tab_ok Try.func21 rfl (by kernel_rfl) Try.ntmps21 (Nat.le_of_ble_eq_true rfl) (rs := _) (congrArg Array.toList Try.results21) ?_
  refine PW.go tab_ok [] fun K hK => ?_
  simp only [go_sem, ↓reduceIte, reduceCtorEq, Nat.reduceBEq, Nat.reduceAdd, Nat.reduceMul, Nat.reduceSub, Nat.reduceLT, Nat.reduceLeDiff, Nat.reduceEqDiff]
  (refine hK _ _ ?_; (try clear hK); (try clear K))
  refine PW.go tab_ok [] fun K hK => ?_
  simp only [rdPV, tokPV, go_sem, ↓reduceIte, reduceCtorEq, Nat.reduceBEq, Nat.reduceAdd, Nat.reduceMul, Nat.reduceSub, Nat.reduceLT, Nat.reduceLeDiff, Nat.reduceEqDiff]
  (refine hK _ _ ?_; (try clear hK); (try clear K))
  exact PW.ret (One.ret rfl ⟨rfl, rfl⟩ rfl (rd_clean (t :: ts) d c a) rfl)

theorem fine_pc (ts : List Tok) (d c a : Int) :
    One Try.prog 20 [.ref 0 0] (rdPV ts d c a) (fun r cs => r = .bool (c == 0) ∧ cs = rdPV ts d c a) := by
  refine PC.intro tab_ok Try.func20 rfl (by kernel_rfl) Try.ntmps20 (Nat.le_of_ble_eq_true rfl) (rs := _) (congrArg Array.toList Try.results20) ?_
  refine PW.go tab_ok [] fun K hK => ?_
  simp only [go_sem, ↓reduceIte, reduceCtorEq, Nat.reduceBEq, Nat.reduceAdd, Nat.reduceMul, Nat.reduceSub, Nat.reduceLT, Nat.reduceLeDiff, Nat.reduceEqDiff]
  (refine hK _ _ ?_; (try clear hK); (try clear K))
  refine PW.go tab_ok [] fun K hK => ?_
  simp only [rdPV, go_sem, ↓reduceIte, reduceCtorEq, Nat.reduceBEq, Nat.reduceAdd, Nat.reduceMul, Nat.reduceSub, Nat.reduceLT, Nat.reduceLeDiff, Nat.reduceEqDiff]
  (refine hK _ _ ?_; (try clear hK); (try clear K))
  exact PW.ret (One.ret rfl ⟨rfl, rfl⟩ rfl (rd_clean ts d c a) rfl)

theorem fail_pc (t : Tok) (ts : List Tok) (d c a e : Int) :
    One Try.prog 14 [.ref 0 0, .int .i64 e] (rdPV (t :: ts) d c a) (fun r cs => r = .tup [] ∧ cs = if c = 0 then rdPV (t :: ts) d e t.at_ else rdPV (t :: ts) d c a) := by
  refine PC.intro tab_ok Try.func14 rfl (by kernel_rfl) Try.ntmps14 (Nat.le_of_ble_eq_true rfl) (rs := _) (congrArg Array.toList Try.results14) ?_
  refine PW.go tab_ok [] fun K hK => ?_
  simp only [go_sem, ↓reduceIte, reduceCtorEq, Nat.reduceBEq, Nat.reduceAdd, Nat.reduceMul, Nat.reduceSub, Nat.reduceLT, Nat.reduceLeDiff, Nat.reduceEqDiff]
  refine (fine_pc (t :: ts) d c a).use 0 rfl .nil rfl (rd_clean _ _ _ _) ?_
  rintro r cs' ⟨rfl, rfl⟩ _ _
  refine PO.go tab_ok [] ?_
  simp only [go_sem, ↓reduceIte, reduceCtorEq, Nat.reduceBEq, Nat.reduceAdd, Nat.reduceMul, Nat.reduceSub, Nat.reduceLT, Nat.reduceLeDiff, Nat.reduceEqDiff]
  (refine hK _ _ ?_; (try clear hK); (try clear K))
  refine PW.cond_split (b := c == 0) rfl ?_ ?_ <;> intro hc
  · refine PW.goL tab_ok [] fun K hK => ?_
    simp only [go_sem, ↓reduceIte, reduceCtorEq, Nat.reduceBEq, Nat.reduceAdd, Nat.reduceMul, Nat.reduceSub, Nat.reduceLT, Nat.reduceLeDiff, Nat.reduceEqDiff]
    refine (next_pc t ts d c a).use 0 rfl .nil rfl (rd_clean _ _ _ _) ?_
    rintro r cs' ⟨rfl, rfl⟩ _ _
    refine PO.go tab_ok [] ?_
    simp only [rdPV, tokPV, go_sem, ↓reduceIte, reduceCtorEq, Nat.reduceBEq, Nat.reduceAdd, Nat.reduceMul, Nat.reduceSub, Nat.reduceLT, Nat.reduceLeDiff, Nat.reduceEqDiff]
    (refine hK _ _ ?_; (try clear hK); (try clear K))
    have hc0 : c = 0 := by simpa using hc
    exact One.done rfl ⟨rfl, by rw [if_pos hc0]; rfl⟩ rfl (rd_clean (t :: ts) d e t.at_) rfl
  · have hc0 : ¬ c = 0 := by simpa using hc
    exact PW.skip (One.done rfl ⟨rfl, by rw [if_neg hc0]⟩ rfl (rd_clean (t :: ts) d c a) rfl)
end Go.Proofs.Ytolhbjfaahcekaa
end
section
/- slices.Index and slices.Contains of texts. -/
set_option linter.unusedVariables false
set_option linter.unusedSimpArgs false
namespace Go.Proofs.Ytolhbjfaahcekaa
open Go

theorem wrap_nat {n : Nat} (h : n ≤ 4611686018427387904) : IntKind.i64.wrap (n : Int) = (n : Int) := by
  simp only [IntKind.wrap, IntKind.bits, IntKind.signed]
  simp
  omega
def strs (ls : List (List UInt8)) : List PV := ls.map .str
theorem strs_clean (ls : List (List UInt8)) : PVs.clean 0 0 (strs ls) = true := clean_map (fun _ => rfl) ls
/-- Where a text stands first; -1: nowhere. -/
def idxF : List (List UInt8) → List UInt8 → Int
  | [], _ => -1
  | l :: ls, x => if l = x then 0 else if idxF ls x < 0 then -1 else idxF ls x + 1
theorem idx_nil {ls : List (List UInt8)} {x : List UInt8} (h : ∀ (j : Nat) (l : List UInt8), ls[j]? = some l → l ≠ x) : idxF ls x = -1 := by
  induction ls with
  | nil => rfl
  | cons l ls ih =>
    have h0 := h 0 l rfl
    have := ih fun j y e => h (j + 1) y (by simpa using e)
    simp only [idxF, if_neg h0, this]
    rfl
theorem idx_at : ∀ {ls : List (List UInt8)} {x : List UInt8} (k : Nat), ls[k]? = some x → (∀ (j : Nat) (l : List UInt8), j < k → ls[j]? = some l → l ≠ x) → idxF ls x = k
  | [], x, k, h, _ => by simp at h
  | l :: ls, x, 0, h, _ => by simp at h; subst h; simp [idxF]
  | l :: ls, x, k + 1, h, hn => by
    have h0 := hn 0 l (by omega) rfl
    have := idx_at k (by simpa using h) fun j y hj e => hn (j + 1) y (by omega) (by simpa using e)
    simp only [idxF, if_neg h0, this]
    rw [if_neg (by omega)]
    omega

theorem index_pc (ls : List (List UInt8)) (x : List UInt8) (hl : ls.length ≤ 4611686018427387903) :
    Pure Try.prog 65 [.list 1 (strs ls) .no, .str x] (.int .i64 (idxF ls x)) := by
  refine PC.intro tab_ok Try.func65 rfl (by kernel_rfl) Try.ntmps65 (Nat.le_of_ble_eq_true rfl) (rs := _) (congrArg Array.toList Try.results65) ?_
  refine PW.go tab_ok [] fun K hK => ?_
  simp only [go_sem, ↓reduceIte, reduceCtorEq, Nat.reduceBEq, Nat.reduceAdd, Nat.reduceMul, Nat.reduceSub, Nat.reduceLT, Nat.reduceLeDiff, Nat.reduceEqDiff]
  (refine hK _ _ ?_; (try clear hK); (try clear K))
  refine PW.seq_k fun K hK => ?_
  refine PW.go tab_ok [] fun K2 hK2 => ?_
  simp only [go_sem, ↓reduceIte, reduceCtorEq, Nat.reduceBEq, Nat.reduceAdd, Nat.reduceMul, Nat.reduceSub, Nat.reduceLT, Nat.reduceLeDiff, Nat.reduceEqDiff]
  refine hK2 _ _ ?_
  clear hK2 K2
  refine PW.block (PW.loop (α := Nat) (fun k => [(8, .int .i64 (k : Int)), (7, .int .i64 (ls.length : Int)), (0, .list 1 (strs ls) .no), (1, .str x)]) (fun _ => ⟨[], []⟩)
    (fun k => k ≤ ls.length ∧ ∀ (j : Nat) (l : List UInt8), j < k → ls[j]? = some l → l ≠ x) (fun k => ls.length - k) 0 ⟨Nat.zero_le _, fun j l h => by omega⟩ ?_ rfl (fun _ _ => ⟨rfl, rfl⟩) ?_)
  · simp [Sub, eget, strs]
  rintro k ⟨hk, hno⟩
  refine PW.go tab_ok [] fun K hK => ?_
  simp only [go_sem, ↓reduceIte, reduceCtorEq, Nat.reduceBEq, Nat.reduceAdd, Nat.reduceMul, Nat.reduceSub, Nat.reduceLT, Nat.reduceLeDiff, Nat.reduceEqDiff]
  (refine hK _ _ ?_; (try clear hK); (try clear K))
  refine PW.seq_k fun K2 hK2 => ?_
  refine PW.cond_split (b := decide ((k : Int) < (ls.length : Int))) rfl ?_ ?_ <;> intro hc
  · have hlt : k < ls.length := by simpa using hc
    refine PW.skip (hK2 _ _ ?_)
    clear hK2 K2
    refine PW.seq_k fun K3 hK3 => PW.block ?_
    refine PW.go tab_ok [] fun K hK => ?_
    simp only [go_sem, ↓reduceIte, reduceCtorEq, Nat.reduceBEq, Nat.reduceAdd, Nat.reduceMul, Nat.reduceSub, Nat.reduceLT, Nat.reduceLeDiff, Nat.reduceEqDiff]
    (refine hK _ _ ?_; (try clear hK); (try clear K))
    have hget : (strs ls)[((k : Int)).toNat]? = some (.str ls[k]) := by simp [strs, hlt]
    have h0 : (0 : Int) ≤ (k : Int) := by omega
    refine PW.go tab_ok [] fun K hK => ?_
    simp only [hget, h0, go_sem, ↓reduceIte, reduceCtorEq, Nat.reduceBEq, Nat.reduceAdd, Nat.reduceMul, Nat.reduceSub, Nat.reduceLT, Nat.reduceLeDiff, Nat.reduceEqDiff]
    (refine hK _ _ ?_; (try clear hK); (try clear K))
    refine PW.cond_split (b := x == ls[k]) rfl ?_ ?_ <;> intro hc2
    · have he : ls[k] = x := by simpa using (beq_iff_eq.1 hc2).symm
      refine PW.go tab_ok [] fun K hK => ?_
      simp only [go_sem, ↓reduceIte, reduceCtorEq, Nat.reduceBEq, Nat.reduceAdd, Nat.reduceMul, Nat.reduceSub, Nat.reduceLT, Nat.reduceLeDiff, Nat.reduceEqDiff]
      (refine hK _ _ ?_; (try clear hK); (try clear K))
      exact PW.ret (Pure.ret rfl (by rw [idx_at k (by rw [List.getElem?_eq_getElem hlt, he]) hno]; rfl) rfl)
    · have he : ls[k] ≠ x := fun e => by rw [e] at hc2; simp at hc2
      refine PW.skip (hK3 _ _ ?_)
      refine PW.goL tab_ok [] fun K hK => ?_
      simp only [go_sem, ↓reduceIte, reduceCtorEq, Nat.reduceBEq, Nat.reduceAdd, Nat.reduceMul, Nat.reduceSub, Nat.reduceLT, Nat.reduceLeDiff, Nat.reduceEqDiff]
      (refine hK _ _ ?_; (try clear hK); (try clear K))
      refine ⟨k + 1, ⟨by omega, ?_⟩, by omega, ?_, ⟨by simp, rfl, by simp⟩, by simp [Env.clean, PV.clean, strs_clean]⟩
      · intro j l hj e
        rcases Nat.lt_or_ge j k with h | h
        · exact hno j l h e
        · have : j = k := by omega
          subst this
          rw [List.getElem?_eq_getElem hlt] at e
          injection e with e
          rw [← e]; exact he
      · have hw : IntKind.i64.wrap ((k : Int) + 1) = ((k + 1 : Nat) : Int) := by
          rw [show (k : Int) + 1 = ((k + 1 : Nat) : Int) from by omega]
          exact wrap_nat (by omega)
        simp [Sub, eget, hw]
  · have hge : k = ls.length := by simp at hc; omega
    subst hge
    refine PW.exit (hK _ _ ?_)
    clear hK hK2 K2 K
    refine PW.go tab_ok [] fun K hK => ?_
    simp only [go_sem, ↓reduceIte, reduceCtorEq, Nat.reduceBEq, Nat.reduceAdd, Nat.reduceMul, Nat.reduceSub, Nat.reduceLT, Nat.reduceLeDiff, Nat.reduceEqDiff]
    (refine hK _ _ ?_; (try clear hK); (try clear K))
    refine PW.ret (Pure.ret rfl ?_ rfl)
    rw [idx_nil fun j l e => hno j l (by have := (List.getElem?_eq_some_iff.1 e).1; exact this) e]
    rfl
theorem contains_pc (ls : List (List UInt8)) (x : List UInt8) (hl : ls.length ≤ 4611686018427387903) :
    Pure Try.prog 59 [.list 1 (strs ls) .no, .str x] (.bool (decide (idxF ls x ≥ 0))) := by
  refine PC.intro tab_ok Try.func59 rfl (by kernel_rfl) Try.ntmps59 (Nat.le_of_ble_eq_true rfl) (rs := _) (congrArg Array.toList Try.results59) ?_
  refine PW.go tab_ok [] fun K hK => ?_
  simp only [go_sem, ↓reduceIte, reduceCtorEq, Nat.reduceBEq, Nat.reduceAdd, Nat.reduceMul, Nat.reduceSub, Nat.reduceLT, Nat.reduceLeDiff, Nat.reduceEqDiff]
  (refine hK _ _ ?_; (try clear hK); (try clear K))
  refine PW.go tab_ok [] fun K hK => ?_
  simp only [go_sem, ↓reduceIte, reduceCtorEq, Nat.reduceBEq, Nat.reduceAdd, Nat.reduceMul, Nat.reduceSub, Nat.reduceLT, Nat.reduceLeDiff, Nat.reduceEqDiff]
  refine (index_pc ls x hl).use (Weaks.refl _) (by simp [PVs.clean, PV.clean, strs_clean]) rfl ?_
  refine PO.go tab_ok [] ?_
  simp only [go_sem, ↓reduceIte, reduceCtorEq, Nat.reduceBEq, Nat.reduceAdd, Nat.reduceMul, Nat.reduceSub, Nat.reduceLT, Nat.reduceLeDiff, Nat.reduceEqDiff]
  (refine hK _ _ ?_; (try clear hK); (try clear K))
  exact PW.ret (Pure.ret rfl rfl rfl)
end Go.Proofs.Ytolhbjfaahcekaa
end
section
/- The parser's reader: words and signs. -/
set_option linter.unusedVariables false
set_option linter.unusedSimpArgs false
namespace Go.Proofs.Ytolhbjfaahcekaa
open Go

abbrev Str := List UInt8
/-- What a reader stands at. -/
structure R where
  ts : List Tok
  d : Int
  c : Int
  a : Int
def rPV (r : R) : List PV := rdPV r.ts r.d r.c r.a
theorem r_clean (r : R) : PVs.clean 0 0 (rPV r) = true := rd_clean _ _ _ _
/-- A function that is told of a reader. -/
def OneM (P : Program) (f : FuncId) (us : List PV) (r : R) (x : PV) (r' : R) : Prop := One P f (.ref 0 0 :: us) (rPV r) fun y cs => y = x ∧ cs = rPV r'
theorem OneM.use {P : Program} {f : FuncId} {us args : List PV} {r r' : R} {x : PV} (h : OneM P f us r x r') (k : Nat) {st : St} {K : PV → St → Prop} (hb : st.box[k]? = some (rPV r)) (ha : Weaks args us) (hc : PVs.clean 0 0 us = true)
    (hk : K x { st with box := st.box.set k (rPV r') }) : PC P f (.ref k 0 :: args) st K := by
  refine One.use h k hb ha hc (r_clean r) ?_
  rintro y cs ⟨rfl, rfl⟩ _ _
  exact hk
theorem r_left (r : R) (rest : List (List PV)) (len : List Nat) : Left ⟨rPV r :: rest, len⟩ ⟨[rPV r], []⟩ := by
  refine ⟨?_, by simp, ?_⟩
  · simp only [List.length_cons, List.length_nil, List.take_succ_cons, List.take_zero, boxes_cons, boxes_nil, and_true]
    exact ⟨Weaks.refl _, by intro z hz; simp only [rPV, rdPV, List.mem_cons, List.not_mem_nil, or_false] at hz; rcases hz with rfl | rfl | rfl | rfl <;> rfl⟩
  · intro c h
    simp at h
    subst h
    exact PVs.clean_data (r_clean r)
theorem OneM.fin {tt : TTab} {rs : List ResultVar} {cs : List PV} {rest : List (List PV)} {len : List Nat} {env : Env} {xs : List PV} {e : Exit} {x : PV} {r' : R} {cs' : List PV} (he : e = .ret ∨ e = .normal)
    (hr : resAll tt env ⟨cs' :: rest, len⟩ rs = some xs) (hcs : cs' = rPV r') (hw : Weak (resPV xs) x) (hx : PV.clean 0 0 x = true) :
    Ends tt rs ⟨[cs], []⟩ (fun r st' => ∃ cs', st' = ⟨[cs'], []⟩ ∧ (r = x ∧ cs' = rPV r') ∧ PV.clean 0 0 r = true ∧ PVs.clean 0 0 cs' = true) e env ⟨cs' :: rest, len⟩ := by
  subst hcs
  exact ⟨he, xs, x, ⟨[rPV r'], []⟩, hr, hw, r_left r' rest len, by simp, by simp, PV.clean_data hx, _, rfl, ⟨rfl, rfl⟩, hx, r_clean r'⟩

def hd (r : R) : Tok := r.ts.headD ⟨0, [], 0, 0⟩
def isM (ls : List Str) (r : R) : Int := if r.c = 0 ∧ ((hd r).kind = 2 ∨ (hd r).kind = 5) then idxF ls (hd r).text else -1
def R.tail (r : R) : R := { r with ts := r.ts.tail }
def passM (ls : List Str) (r : R) : Int × R := (isM ls r, if 0 ≤ isM ls r then r.tail else r)
def failM (e : Int) (r : R) : R := if r.c = 0 then { r with c := e, a := (hd r).at_ } else r
def hasM (s : Str) (r : R) : Bool × R := (decide (0 ≤ (passM [s] r).1), (passM [s] r).2)
def mustM : List Str → R → R
  | [], r => r
  | l :: ls, r => mustM ls (if (hasM l r).1 then (hasM l r).2 else failM 4 (hasM l r).2)
def tok0 : Tok := ⟨0, [], 0, 0⟩
def takeM (k : Int) (r : R) : Tok × R := if r.c = 0 ∧ (hd r).kind = k then (hd r, r.tail) else (tok0, failM 4 r)
def nameM (r : R) : Str × R := ((takeM 1 r).1.text, (takeM 1 r).2)
/-- There is a next token: the last one is the end. -/
def R.ok (r : R) : Prop := ∃ l e, r.ts = l ++ [e] ∧ e.kind = 6
theorem R.ok.cons {r : R} (h : r.ok) : ∃ t ts, r.ts = t :: ts ∧ (t.kind ≠ 6 → r.tail.ok) := by
  obtain ⟨l, e, h1, h2⟩ := h
  cases l with
  | nil => exact ⟨e, [], by simpa using h1, fun h => absurd h2 h⟩
  | cons t l => exact ⟨t, l ++ [e], by simpa using h1, fun _ => ⟨l, e, by simp [R.tail, h1], h2⟩⟩
theorem failM_ok {r : R} (h : r.ok) (e : Int) : (failM e r).ok := by
  unfold failM
  split
  · exact h
  · exact h
theorem isM_tail {ls : List Str} {r : R} (h : r.ok) (hk : 0 ≤ isM ls r) : r.tail.ok := by
  obtain ⟨t, ts, h1, h2⟩ := h.cons
  refine h2 fun h6 => ?_
  unfold isM at hk
  split at hk
  · rename_i hc
    simp only [hd, h1, List.headD_cons, h6] at hc
    omega
  · omega
theorem passM_ok {ls : List Str} {r : R} (h : r.ok) : (passM ls r).2.ok := by
  unfold passM
  split
  · exact isM_tail h ‹_›
  · exact h
theorem hasM_ok {s : Str} {r : R} (h : r.ok) : (hasM s r).2.ok := passM_ok h
theorem mustM_ok : ∀ {ls : List Str} {r : R}, r.ok → (mustM ls r).ok
  | [], r, h => h
  | l :: ls, r, h => by
    unfold mustM
    refine mustM_ok ?_
    split
    · exact hasM_ok h
    · exact failM_ok (hasM_ok h) 4
theorem takeM_ok {k : Int} (hk : k ≠ 6) {r : R} (h : r.ok) : (takeM k r).2.ok := by
  obtain ⟨t, ts, h1, h2⟩ := h.cons
  unfold takeM
  split
  · rename_i hc
    refine h2 fun h6 => hk ?_
    simp only [hd, h1, List.headD_cons] at hc
    rw [← hc.2, h6]
  · exact failM_ok h 4
theorem nameM_ok {r : R} (h : r.ok) : (nameM r).2.ok := takeM_ok (by decide) h
theorem fail_pc' {r : R} (h : r.ok) (e : Int) : OneM Try.prog 14 [.int .i64 e] r (.tup []) (failM e r) := by
  obtain ⟨t, ts, h1, _⟩ := h.cons
  obtain ⟨_, d, c, a⟩ := r
  subst h1
  refine PC.mono (fail_pc t ts d c a e) ?_
  rintro r st ⟨cs, rfl, ⟨rfl, rfl⟩, h2, h3⟩
  refine ⟨_, rfl, ⟨rfl, ?_⟩, h2, h3⟩
  unfold failM
  simp only
  split <;> rfl
theorem idx_ge (ls : List Str) (x : Str) : -1 ≤ idxF ls x ∧ idxF ls x < ls.length := by
  induction ls with
  | nil => simp [idxF]
  | cons l ls ih =>
    simp only [idxF, List.length_cons]
    split
    · omega
    · split <;> omega

theorem is_pc {ls : List Str} (hl : ls.length ≤ 4611686018427387903) {r : R} (h : r.ok) : OneM Try.prog 40 [.list 1 (strs ls) .no] r (.int .i64 (isM ls r)) r := by
  obtain ⟨t, ts, h1, _⟩ := h.cons
  obtain ⟨_, d, c, a⟩ := r
  subst h1
  refine PC.intro tab_ok Try.func40 rfl (by kernel_rfl) Try.ntmps40 (Nat.le_of_ble_eq_true rfl) (rs := _) (congrArg Array.toList Try.results40) ?_
  refine PW.go tab_ok [] fun K hK => ?_
  simp only [go_sem, ↓reduceIte, reduceCtorEq, Nat.reduceBEq, Nat.reduceAdd, Nat.reduceMul, Nat.reduceSub, Nat.reduceLT, Nat.reduceLeDiff, Nat.reduceEqDiff]
  (refine hK _ _ ?_; (try clear hK); (try clear K))
  refine PW.go tab_ok [] fun K hK => ?_
  simp only [go_sem, ↓reduceIte, reduceCtorEq, Nat.reduceBEq, Nat.reduceAdd, Nat.reduceMul, Nat.reduceSub, Nat.reduceLT, Nat.reduceLeDiff, Nat.reduceEqDiff]
  refine (next_pc t ts d c a).use 0 rfl .nil rfl (rd_clean _ _ _ _) ?_
  rintro _ _ ⟨rfl, rfl⟩ _ _
  refine PO.go tab_ok [] ?_
  simp only [tokPV, go_sem, ↓reduceIte, reduceCtorEq, Nat.reduceBEq, Nat.reduceAdd, Nat.reduceMul, Nat.reduceSub, Nat.reduceLT, Nat.reduceLeDiff, Nat.reduceEqDiff]
  (refine hK _ _ ?_; (try clear hK); (try clear K))
  refine PW.seq_k fun K0 hK0 => ?_
  refine PW.go tab_ok [] fun K hK => ?_
  simp only [go_sem, ↓reduceIte, reduceCtorEq, Nat.reduceBEq, Nat.reduceAdd, Nat.reduceMul, Nat.reduceSub, Nat.reduceLT, Nat.reduceLeDiff, Nat.reduceEqDiff]
  refine (fine_pc (t :: ts) d c a).use 0 rfl .nil rfl (rd_clean _ _ _ _) ?_
  rintro _ _ ⟨rfl, rfl⟩ _ _
  refine PO.go tab_ok [] ?_
  have hlast : ∀ {env : Env} {st : St}, Sub env [(0, .ref 0 0), (1, .list 1 (strs ls) .no), (5, .ref 1 0)] → st = ⟨[rdPV (t :: ts) d c a, [.int .i64 t.kind, .str t.text, .int .i64 t.num, .int .i64 t.at_]], []⟩ → c = 0 ∧ (t.kind = 2 ∨ t.kind = 5) → K0 env st := by
    rintro env st hsub rfl hc
    refine hK0 _ _ (PW.less _ hsub ?_)
    refine PW.go tab_ok [] fun K hK => ?_
    simp only [go_sem, ↓reduceIte, reduceCtorEq, Nat.reduceBEq, Nat.reduceAdd, Nat.reduceMul, Nat.reduceSub, Nat.reduceLT, Nat.reduceLeDiff, Nat.reduceEqDiff]
    refine (index_pc ls t.text (by omega)).use (Weaks.refl _) (by simp [PVs.clean, PV.clean, strs_clean]) rfl ?_
    refine PO.go tab_ok [] ?_
    simp only [go_sem, ↓reduceIte, reduceCtorEq, Nat.reduceBEq, Nat.reduceAdd, Nat.reduceMul, Nat.reduceSub, Nat.reduceLT, Nat.reduceLeDiff, Nat.reduceEqDiff]
    (refine hK _ _ ?_; (try clear hK); (try clear K))
    refine PW.ret (OneM.fin (.inl rfl) rfl rfl ?_ rfl)
    simp [isM, hd, hc, resPV]
  by_cases hc : c = 0
  · subst hc
    have hc' : ((0 : Int) == 0) = true := rfl
    by_cases h2 : t.kind = 2
    · have h2' : (t.kind != 2) = false := by simp [h2]
      simp only [hc', h2', go_sem, ↓reduceIte, reduceCtorEq, Nat.reduceBEq, Nat.reduceAdd, Nat.reduceMul, Nat.reduceSub, Nat.reduceLT, Nat.reduceLeDiff, Nat.reduceEqDiff]
      (refine hK _ _ ?_; (try clear hK); (try clear K))
      refine PW.cond_split (b := false) rfl ?_ ?_ <;> intro hb
      · cases hb
      exact PW.skip (hlast (by simp [Sub, eget]) rfl ⟨rfl, .inl h2⟩)
    · have h2' : (t.kind != 2) = true := by simp [h2]
      by_cases h5 : t.kind = 5
      · have h5' : (t.kind != 5) = false := by simp [h5]
        simp only [hc', h2', h5', go_sem, ↓reduceIte, reduceCtorEq, Nat.reduceBEq, Nat.reduceAdd, Nat.reduceMul, Nat.reduceSub, Nat.reduceLT, Nat.reduceLeDiff, Nat.reduceEqDiff]
        (refine hK _ _ ?_; (try clear hK); (try clear K))
        refine PW.cond_split (b := false) rfl ?_ ?_ <;> intro hb
        · cases hb
        exact PW.skip (hlast (by simp [Sub, eget]) rfl ⟨rfl, .inr h5⟩)
      · have h5' : (t.kind != 5) = true := by simp [h5]
        simp only [hc', h2', h5', go_sem, ↓reduceIte, reduceCtorEq, Nat.reduceBEq, Nat.reduceAdd, Nat.reduceMul, Nat.reduceSub, Nat.reduceLT, Nat.reduceLeDiff, Nat.reduceEqDiff]
        (refine hK _ _ ?_; (try clear hK); (try clear K))
        refine PW.cond_split (b := true) rfl ?_ ?_ <;> intro hb
        · refine PW.go tab_ok [] fun K hK => ?_
          simp only [go_sem, ↓reduceIte, reduceCtorEq, Nat.reduceBEq, Nat.reduceAdd, Nat.reduceMul, Nat.reduceSub, Nat.reduceLT, Nat.reduceLeDiff, Nat.reduceEqDiff]
          (refine hK _ _ ?_; (try clear hK); (try clear K))
          refine PW.ret (OneM.fin (.inl rfl) rfl rfl ?_ rfl)
          simp [isM, hd, h2, h5, resPV]
        · cases hb
  · have hc' : (c == 0) = false := by simp [hc]
    simp only [hc', go_sem, ↓reduceIte, reduceCtorEq, Nat.reduceBEq, Nat.reduceAdd, Nat.reduceMul, Nat.reduceSub, Nat.reduceLT, Nat.reduceLeDiff, Nat.reduceEqDiff]
    (refine hK _ _ ?_; (try clear hK); (try clear K))
    refine PW.cond_split (b := true) rfl ?_ ?_ <;> intro hb
    · refine PW.go tab_ok [] fun K hK => ?_
      simp only [go_sem, ↓reduceIte, reduceCtorEq, Nat.reduceBEq, Nat.reduceAdd, Nat.reduceMul, Nat.reduceSub, Nat.reduceLT, Nat.reduceLeDiff, Nat.reduceEqDiff]
      (refine hK _ _ ?_; (try clear hK); (try clear K))
      refine PW.ret (OneM.fin (.inl rfl) rfl rfl ?_ rfl)
      simp [isM, hc, resPV]
    · cases hb
end Go.Proofs.Ytolhbjfaahcekaa
end
section
/- The lexer: kinds of bytes, rows of bytes. -/
set_option linter.unusedVariables false
set_option linter.unusedSimpArgs false
namespace Go.Proofs.Ytolhbjfaahcekaa
open Go

def bPV (c : UInt8) : PV := .int .u8 (c.toNat : Int)
def firstB (c : UInt8) : Bool := decide ((c.toNat : Int) ≥ 97) && decide ((c.toNat : Int) ≤ 122) || ((c.toNat : Int) == 95)
def greatB (c : UInt8) : Bool := decide ((c.toNat : Int) ≥ 65) && decide ((c.toNat : Int) ≤ 90)
def digitB (c : UInt8) : Bool := decide ((c.toNat : Int) ≥ 48) && decide ((c.toNat : Int) ≤ 57)
def smallB (c : UInt8) : Bool := firstB c || digitB c
def lineB (c : UInt8) : Bool := (c.toNat : Int) != 10
/-- A test of a byte. -/
def Bt (g : FuncId) (p : UInt8 → Bool) : Prop := ∀ c, Pure Try.prog g [bPV c] (.bool (p c))

theorem great_pc : Bt 35 greatB := by
  intro c
  refine PC.intro tab_ok Try.func35 rfl (by kernel_rfl) Try.ntmps35 (Nat.le_of_ble_eq_true rfl) (rs := _) (congrArg Array.toList Try.results35) ?_
  refine PW.go tab_ok [] fun K hK => ?_
  simp only [go_sem, ↓reduceIte, reduceCtorEq, Nat.reduceBEq, Nat.reduceAdd, Nat.reduceMul, Nat.reduceSub, Nat.reduceLT, Nat.reduceLeDiff, Nat.reduceEqDiff]
  (refine hK _ _ ?_; (try clear hK); (try clear K))
  refine PW.go tab_ok [] fun K hK => ?_
  cases h1 : decide ((c.toNat : Int) ≥ 65)
  · simp only [bPV, h1, go_sem, ↓reduceIte, reduceCtorEq, Nat.reduceBEq, Nat.reduceAdd, Nat.reduceMul, Nat.reduceSub, Nat.reduceLT, Nat.reduceLeDiff, Nat.reduceEqDiff]
    (refine hK _ _ ?_; (try clear hK); (try clear K))
    exact PW.ret (Pure.ret rfl (by simp [greatB, h1, resPV]) rfl)
  · simp only [bPV, h1, go_sem, ↓reduceIte, reduceCtorEq, Nat.reduceBEq, Nat.reduceAdd, Nat.reduceMul, Nat.reduceSub, Nat.reduceLT, Nat.reduceLeDiff, Nat.reduceEqDiff]
    (refine hK _ _ ?_; (try clear hK); (try clear K))
    exact PW.ret (Pure.ret rfl (by simp [greatB, h1, resPV]) rfl)
theorem digit_pc : Bt 36 digitB := by
  intro c
  refine PC.intro tab_ok Try.func36 rfl (by kernel_rfl) Try.ntmps36 (Nat.le_of_ble_eq_true rfl) (rs := _) (congrArg Array.toList Try.results36) ?_
  refine PW.go tab_ok [] fun K hK => ?_
  simp only [go_sem, ↓reduceIte, reduceCtorEq, Nat.reduceBEq, Nat.reduceAdd, Nat.reduceMul, Nat.reduceSub, Nat.reduceLT, Nat.reduceLeDiff, Nat.reduceEqDiff]
  (refine hK _ _ ?_; (try clear hK); (try clear K))
  refine PW.go tab_ok [] fun K hK => ?_
  cases h1 : decide ((c.toNat : Int) ≥ 48)
  · simp only [bPV, h1, go_sem, ↓reduceIte, reduceCtorEq, Nat.reduceBEq, Nat.reduceAdd, Nat.reduceMul, Nat.reduceSub, Nat.reduceLT, Nat.reduceLeDiff, Nat.reduceEqDiff]
    (refine hK _ _ ?_; (try clear hK); (try clear K))
    exact PW.ret (Pure.ret rfl (by simp [digitB, h1, resPV]) rfl)
  · simp only [bPV, h1, go_sem, ↓reduceIte, reduceCtorEq, Nat.reduceBEq, Nat.reduceAdd, Nat.reduceMul, Nat.reduceSub, Nat.reduceLT, Nat.reduceLeDiff, Nat.reduceEqDiff]
    (refine hK _ _ ?_; (try clear hK); (try clear K))
    exact PW.ret (Pure.ret rfl (by simp [digitB, h1, resPV]) rfl)
theorem line_pc : Bt 31 lineB := by
  intro c
  refine PC.intro tab_ok Try.func31 rfl (by kernel_rfl) Try.ntmps31 (Nat.le_of_ble_eq_true rfl) (rs := _) (congrArg Array.toList Try.results31) ?_
  refine PW.go tab_ok [] fun K hK => ?_
  simp only [go_sem, ↓reduceIte, reduceCtorEq, Nat.reduceBEq, Nat.reduceAdd, Nat.reduceMul, Nat.reduceSub, Nat.reduceLT, Nat.reduceLeDiff, Nat.reduceEqDiff]
  (refine hK _ _ ?_; (try clear hK); (try clear K))
  refine PW.go tab_ok [] fun K hK => ?_
  simp only [bPV, go_sem, ↓reduceIte, reduceCtorEq, Nat.reduceBEq, Nat.reduceAdd, Nat.reduceMul, Nat.reduceSub, Nat.reduceLT, Nat.reduceLeDiff, Nat.reduceEqDiff]
  (refine hK _ _ ?_; (try clear hK); (try clear K))
  exact PW.ret (Pure.ret rfl rfl rfl)
theorem first_pc : Bt 33 firstB := by
  intro c
  refine PC.intro tab_ok Try.func33 rfl (by kernel_rfl) Try.ntmps33 (Nat.le_of_ble_eq_true rfl) (rs := _) (congrArg Array.toList Try.results33) ?_
  refine PW.go tab_ok [] fun K hK => ?_
  simp only [go_sem, ↓reduceIte, reduceCtorEq, Nat.reduceBEq, Nat.reduceAdd, Nat.reduceMul, Nat.reduceSub, Nat.reduceLT, Nat.reduceLeDiff, Nat.reduceEqDiff]
  (refine hK _ _ ?_; (try clear hK); (try clear K))
  refine PW.go tab_ok [] fun K hK => ?_
  cases h1 : decide ((c.toNat : Int) ≥ 97)
  · simp only [bPV, h1, go_sem, ↓reduceIte, reduceCtorEq, Nat.reduceBEq, Nat.reduceAdd, Nat.reduceMul, Nat.reduceSub, Nat.reduceLT, Nat.reduceLeDiff, Nat.reduceEqDiff]
    (refine hK _ _ ?_; (try clear hK); (try clear K))
    exact PW.ret (Pure.ret rfl (by simp [firstB, h1, resPV]) rfl)
  · cases h2 : decide ((c.toNat : Int) ≤ 122)
    · simp only [bPV, h1, h2, go_sem, ↓reduceIte, reduceCtorEq, Nat.reduceBEq, Nat.reduceAdd, Nat.reduceMul, Nat.reduceSub, Nat.reduceLT, Nat.reduceLeDiff, Nat.reduceEqDiff]
      (refine hK _ _ ?_; (try clear hK); (try clear K))
      exact PW.ret (Pure.ret rfl (by simp [firstB, h1, h2, resPV]) rfl)
    · simp only [bPV, h1, h2, go_sem, ↓reduceIte, reduceCtorEq, Nat.reduceBEq, Nat.reduceAdd, Nat.reduceMul, Nat.reduceSub, Nat.reduceLT, Nat.reduceLeDiff, Nat.reduceEqDiff]
      (refine hK _ _ ?_; (try clear hK); (try clear K))
      exact PW.ret (Pure.ret rfl (by simp [firstB, h1, h2, resPV]) rfl)
theorem small_pc : Bt 34 smallB := by
  intro c
  refine PC.intro tab_ok Try.func34 rfl (by kernel_rfl) Try.ntmps34 (Nat.le_of_ble_eq_true rfl) (rs := _) (congrArg Array.toList Try.results34) ?_
  refine PW.go tab_ok [] fun K hK => ?_
  simp only [go_sem, ↓reduceIte, reduceCtorEq, Nat.reduceBEq, Nat.reduceAdd, Nat.reduceMul, Nat.reduceSub, Nat.reduceLT, Nat.reduceLeDiff, Nat.reduceEqDiff]
  (refine hK _ _ ?_; (try clear hK); (try clear K))
  refine PW.go tab_ok [] fun K hK => ?_
  simp only [go_sem, ↓reduceIte, reduceCtorEq, Nat.reduceBEq, Nat.reduceAdd, Nat.reduceMul, Nat.reduceSub, Nat.reduceLT, Nat.reduceLeDiff, Nat.reduceEqDiff]
  refine (first_pc c).use (Weaks.refl _) rfl rfl ?_
  refine PO.go tab_ok [] ?_
  cases h1 : firstB c
  · simp only [go_sem, ↓reduceIte, reduceCtorEq, Nat.reduceBEq, Nat.reduceAdd, Nat.reduceMul, Nat.reduceSub, Nat.reduceLT, Nat.reduceLeDiff, Nat.reduceEqDiff]
    refine (digit_pc c).use (Weaks.refl _) rfl rfl ?_
    refine PO.go tab_ok [] ?_
    simp only [go_sem, ↓reduceIte, reduceCtorEq, Nat.reduceBEq, Nat.reduceAdd, Nat.reduceMul, Nat.reduceSub, Nat.reduceLT, Nat.reduceLeDiff, Nat.reduceEqDiff]
    (refine hK _ _ ?_; (try clear hK); (try clear K))
    exact PW.ret (Pure.ret rfl (by simp [smallB, h1, resPV]) rfl)
  · simp only [go_sem, ↓reduceIte, reduceCtorEq, Nat.reduceBEq, Nat.reduceAdd, Nat.reduceMul, Nat.reduceSub, Nat.reduceLT, Nat.reduceLeDiff, Nat.reduceEqDiff]
    (refine hK _ _ ?_; (try clear hK); (try clear K))
    exact PW.ret (Pure.ret rfl (by simp [smallB, h1, resPV]) rfl)
end Go.Proofs.Ytolhbjfaahcekaa
end
section
/- The lexer: beginnings, rows of bytes, words and signs. -/
set_option linter.unusedVariables false
set_option linter.unusedSimpArgs false
namespace Go.Proofs.Ytolhbjfaahcekaa
open Go

def prefB (s p : Str) : Bool := decide ((s.length : Int) ≥ (p.length : Int)) && (s.take p.length == p)
theorem prefix_pc (s p : Str) : Pure Try.prog 53 [.str s, .str p] (.bool (prefB s p)) := by
  refine PC.intro tab_ok Try.func53 rfl (by kernel_rfl) Try.ntmps53 (Nat.le_of_ble_eq_true rfl) (rs := _) (congrArg Array.toList Try.results53) ?_
  refine PW.go tab_ok [] fun K hK => ?_
  simp only [go_sem, ↓reduceIte, reduceCtorEq, Nat.reduceBEq, Nat.reduceAdd, Nat.reduceMul, Nat.reduceSub, Nat.reduceLT, Nat.reduceLeDiff, Nat.reduceEqDiff]
  (refine hK _ _ ?_; (try clear hK); (try clear K))
  refine PW.go tab_ok [] fun K hK => ?_
  cases h1 : decide ((s.length : Int) ≥ (p.length : Int))
  · simp only [h1, go_sem, ↓reduceIte, reduceCtorEq, Nat.reduceBEq, Nat.reduceAdd, Nat.reduceMul, Nat.reduceSub, Nat.reduceLT, Nat.reduceLeDiff, Nat.reduceEqDiff]
    (refine hK _ _ ?_; (try clear hK); (try clear K))
    exact PW.ret (Pure.ret rfl (by simp only [prefB, h1, resPV, Bool.false_and]) rfl)
  · have h2 : (0 : Int) ≤ (p.length : Int) ∧ (p.length : Int) ≤ (s.length : Int) := ⟨by omega, by simpa using h1⟩
    have h3 : (0 : Int) ≤ (p.length : Int) := by omega
    have h4 : (p.length : Int) ≤ (s.length : Int) := by simpa using h1
    simp only [h1, h3, h4, Int.toNat_natCast, go_sem, ↓reduceIte, reduceCtorEq, Nat.reduceBEq, Nat.reduceAdd, Nat.reduceMul, Nat.reduceSub, Nat.reduceLT, Nat.reduceLeDiff, Nat.reduceEqDiff]
    (refine hK _ _ ?_; (try clear hK); (try clear K))
    exact PW.ret (Pure.ret rfl (by simp only [prefB, h1, resPV, Bool.true_and, cond_true]) rfl)
theorem hasPrefix_pc (s p : Str) : Pure Try.prog 29 [.str s, .str p] (.bool (prefB s p)) := by
  refine PC.intro tab_ok Try.func29 rfl (by kernel_rfl) Try.ntmps29 (Nat.le_of_ble_eq_true rfl) (rs := _) (congrArg Array.toList Try.results29) ?_
  refine PW.go tab_ok [] fun K hK => ?_
  simp only [go_sem, ↓reduceIte, reduceCtorEq, Nat.reduceBEq, Nat.reduceAdd, Nat.reduceMul, Nat.reduceSub, Nat.reduceLT, Nat.reduceLeDiff, Nat.reduceEqDiff]
  (refine hK _ _ ?_; (try clear hK); (try clear K))
  refine PW.go tab_ok [] fun K hK => ?_
  simp only [go_sem, ↓reduceIte, reduceCtorEq, Nat.reduceBEq, Nat.reduceAdd, Nat.reduceMul, Nat.reduceSub, Nat.reduceLT, Nat.reduceLeDiff, Nat.reduceEqDiff]
  refine (prefix_pc s p).use (Weaks.refl _) rfl rfl ?_
  refine PO.go tab_ok [] ?_
  simp only [go_sem, ↓reduceIte, reduceCtorEq, Nat.reduceBEq, Nat.reduceAdd, Nat.reduceMul, Nat.reduceSub, Nat.reduceLT, Nat.reduceLeDiff, Nat.reduceEqDiff]
  (refine hK _ _ ?_; (try clear hK); (try clear K))
  exact PW.ret (Pure.ret rfl rfl rfl)
def rowN (p : UInt8 → Bool) (s : Str) : Nat := (s.takeWhile p).length
theorem rowN_eq {p : UInt8 → Bool} : ∀ {s : Str} {k : Nat}, (∀ (j : Nat) (c : UInt8), j < k → s[j]? = some c → p c = true) → (s[k]? = none ∧ k ≤ s.length ∨ ∃ c, s[k]? = some c ∧ p c = false) → rowN p s = k
  | [], 0, _, _ => rfl
  | [], k + 1, _, h => by
    rcases h with h | ⟨c, h, _⟩
    · simp at h
    · simp at h
  | x :: s, 0, _, h => by
    rcases h with h | ⟨c, h, hp⟩
    · simp at h
    · simp at h
      subst h
      simp [rowN, hp]
  | x :: s, k + 1, hj, h => by
    have hx := hj 0 x (by omega) rfl
    have := rowN_eq (p := p) (s := s) (k := k) (fun j c hlt e => hj (j + 1) c (by omega) (by simpa using e)) (by
      rcases h with h | ⟨c, h, hp⟩
      · exact .inl (by simpa using h)
      · exact .inr ⟨c, by simpa using h, hp⟩)
    simp only [rowN, List.takeWhile_cons, hx, if_true, List.length_cons]
    exact congrArg (· + 1) this
theorem rowN_le (p : UInt8 → Bool) (s : Str) : rowN p s ≤ s.length := (List.takeWhile_prefix p).length_le
theorem lexrow_pc {g : FuncId} {p : UInt8 → Bool} (hg : Bt g p) {s : Str} (hl : s.length ≤ 4611686018427387903) :
    Pure Try.prog 30 [.str s, .clo (.func g) [] []] (.int .i64 (rowN p s)) := by
  refine PC.intro tab_ok Try.func30 rfl (by kernel_rfl) Try.ntmps30 (Nat.le_of_ble_eq_true rfl) (rs := _) (congrArg Array.toList Try.results30) ?_
  refine PW.go tab_ok [] fun K hK => ?_
  simp only [go_sem, ↓reduceIte, reduceCtorEq, Nat.reduceBEq, Nat.reduceAdd, Nat.reduceMul, Nat.reduceSub, Nat.reduceLT, Nat.reduceLeDiff, Nat.reduceEqDiff]
  (refine hK _ _ ?_; (try clear hK); (try clear K))
  refine PW.go tab_ok [] fun K hK => ?_
  simp only [go_sem, ↓reduceIte, reduceCtorEq, Nat.reduceBEq, Nat.reduceAdd, Nat.reduceMul, Nat.reduceSub, Nat.reduceLT, Nat.reduceLeDiff, Nat.reduceEqDiff]
  (refine hK _ _ ?_; (try clear hK); (try clear K))
  refine PW.seq_k fun K0 hK0 => ?_
  refine PW.block (PW.loop (α := Nat) (fun k => [(5, .int .i64 (k : Int)), (0, .str s), (1, .clo (.func g) [] [])]) (fun k => ⟨[], []⟩)
    (fun k => k ≤ s.length ∧ ∀ (j : Nat) (c : UInt8), j < k → s[j]? = some c → p c = true) (fun k => s.length - k) 0 ⟨Nat.zero_le _, fun j c h => by omega⟩ ?_ rfl (fun _ _ => ⟨rfl, rfl⟩) ?_)
  · simp [Sub, eget]
  rintro k ⟨hk, hj⟩
  have hstop : ∀ {env : Env} {st : St}, Sub env [(5, .int .i64 (k : Int))] → st = ⟨[], []⟩ → rowN p s = k → K0 env st := by
    rintro env st hsub rfl hr
    refine hK0 _ _ (PW.less _ hsub ?_)
    refine PW.go tab_ok [] fun K hK => ?_
    simp only [go_sem, ↓reduceIte, reduceCtorEq, Nat.reduceBEq, Nat.reduceAdd, Nat.reduceMul, Nat.reduceSub, Nat.reduceLT, Nat.reduceLeDiff, Nat.reduceEqDiff]
    (refine hK _ _ ?_; (try clear hK); (try clear K))
    exact PW.ret (Pure.ret rfl (by rw [hr]; rfl) rfl)
  refine PW.seq_k fun K2 hK2 => ?_
  refine PW.go tab_ok [] fun K hK => ?_
  by_cases hlt : k < s.length
  · have h1 : decide ((k : Int) < (s.length : Int)) = true := by simpa using hlt
    have h0 : (0 : Int) ≤ (k : Int) := by omega
    have hget : s[((k : Int)).toNat]? = some s[k] := by simp [hlt]
    simp only [h1, h0, hget, go_sem, ↓reduceIte, reduceCtorEq, Nat.reduceBEq, Nat.reduceAdd, Nat.reduceMul, Nat.reduceSub, Nat.reduceLT, Nat.reduceLeDiff, Nat.reduceEqDiff]
    refine (hg s[k]).use (Weaks.refl _) rfl rfl ?_
    refine PO.go tab_ok [] ?_
    cases hp : p s[k]
    · simp only [go_sem, ↓reduceIte, reduceCtorEq, Nat.reduceBEq, Nat.reduceAdd, Nat.reduceMul, Nat.reduceSub, Nat.reduceLT, Nat.reduceLeDiff, Nat.reduceEqDiff]
      (refine hK _ _ ?_; (try clear hK); (try clear K))
      refine PW.cond_split (b := false) rfl ?_ ?_ <;> intro hb
      · cases hb
      exact PW.exit (hstop (by simp [Sub, eget]) rfl (rowN_eq hj (.inr ⟨s[k], by simp [hlt], hp⟩)))
    · simp only [go_sem, ↓reduceIte, reduceCtorEq, Nat.reduceBEq, Nat.reduceAdd, Nat.reduceMul, Nat.reduceSub, Nat.reduceLT, Nat.reduceLeDiff, Nat.reduceEqDiff]
      (refine hK _ _ ?_; (try clear hK); (try clear K))
      refine PW.cond_split (b := true) rfl ?_ ?_ <;> intro hb
      · refine PW.skip (hK2 _ _ ?_)
        have hw : IntKind.i64.wrap ((k : Int) + 1) = ((k + 1 : Nat) : Int) := by
          rw [show (k : Int) + 1 = ((k + 1 : Nat) : Int) from by omega]
          exact wrap_nat (by omega)
        refine PW.block ?_
        refine PW.goL tab_ok [] fun K hK => ?_
        simp only [go_sem, ↓reduceIte, reduceCtorEq, Nat.reduceBEq, Nat.reduceAdd, Nat.reduceMul, Nat.reduceSub, Nat.reduceLT, Nat.reduceLeDiff, Nat.reduceEqDiff]
        (refine hK _ _ ?_; (try clear hK); (try clear K))
        refine ⟨k + 1, ⟨by omega, ?_⟩, by omega, by simp [Sub, eget, hw], ⟨by simp, rfl, by simp⟩, rfl⟩
        intro j c hlj e
        rcases Nat.lt_or_ge j k with h | h
        · exact hj j c h e
        · have : j = k := by omega
          subst this
          rw [List.getElem?_eq_getElem hlt] at e
          injection e with e
          rw [← e]; exact hp
      · cases hb
  · have h1 : decide ((k : Int) < (s.length : Int)) = false := by simpa using hlt
    simp only [h1, go_sem, ↓reduceIte, reduceCtorEq, Nat.reduceBEq, Nat.reduceAdd, Nat.reduceMul, Nat.reduceSub, Nat.reduceLT, Nat.reduceLeDiff, Nat.reduceEqDiff]
    (refine hK _ _ ?_; (try clear hK); (try clear K))
    refine PW.cond_split (b := false) rfl ?_ ?_ <;> intro hb
    · cases hb
    exact PW.exit (hstop (by simp [Sub, eget]) rfl (rowN_eq hj (.inl ⟨by simp; omega, hk⟩)))
end Go.Proofs.Ytolhbjfaahcekaa
end
section
/- The lexer: blanks. -/
set_option linter.unusedVariables false
set_option linter.unusedSimpArgs false
namespace Go.Proofs.Ytolhbjfaahcekaa
open Go

def blankB (c : UInt8) : Bool := ((c.toNat : Int) == 9) || ((c.toNat : Int) == 10) || ((c.toNat : Int) == 13) || ((c.toNat : Int) == 32)
def sDash : Str := [45, 45]
/-- How many bytes of blanks stand at the begin. -/
def blankF : Nat → Str → Nat
  | 0, _ => 0
  | n + 1, s => match s with
    | [] => 0
    | c :: r => if blankB c then 1 + blankF n r
      else if ((c.toNat : Int) == 45) && prefB s sDash then rowN lineB s + blankF n (s.drop (rowN lineB s)) else 0
def blankN (s : Str) : Nat := blankF s.length s
theorem rowN_dash {s : Str} (h : prefB s sDash = true) : 2 ≤ rowN lineB s := by
  simp only [prefB, Bool.and_eq_true, decide_eq_true_eq, beq_iff_eq] at h
  obtain ⟨h1, h2⟩ := h
  match s, h1, h2 with
  | [], h1, h2 => simp [sDash] at h2
  | [a], h1, h2 => simp [sDash] at h2
  | a :: b :: s, h1, h2 =>
    simp [sDash] at h2
    obtain ⟨rfl, rfl⟩ := h2
    show 2 ≤ (List.takeWhile lineB (45 :: 45 :: s)).length
    rw [List.takeWhile_cons, if_pos (by decide), List.takeWhile_cons, if_pos (by decide)]
    simp
theorem blankF_le : ∀ (n : Nat) (s : Str), blankF n s ≤ s.length
  | 0, s => Nat.zero_le _
  | n + 1, s => by
    unfold blankF
    split
    · exact Nat.zero_le _
    · rename_i c r
      split
      · have := blankF_le n r
        simp
        omega
      · split
        · have h1 := blankF_le n ((c :: r).drop (rowN lineB (c :: r)))
          have h2 := rowN_le lineB (c :: r)
          simp only [List.length_drop] at h1
          omega
        · exact Nat.zero_le _
theorem blankN_le (s : Str) : blankN s ≤ s.length := blankF_le _ s

theorem blanks_pc {s : Str} (hl : s.length ≤ 1000000) : Pure Try.prog 16 [.str s] (.int .i64 (blankN s)) := by
  refine PC.intro tab_ok Try.func16 rfl (by kernel_rfl) Try.ntmps16 (Nat.le_of_ble_eq_true rfl) (rs := _) (congrArg Array.toList Try.results16) ?_
  refine PW.go tab_ok [] fun K hK => ?_
  simp only [go_sem, ↓reduceIte, reduceCtorEq, Nat.reduceBEq, Nat.reduceAdd, Nat.reduceMul, Nat.reduceSub, Nat.reduceLT, Nat.reduceLeDiff, Nat.reduceEqDiff]
  (refine hK _ _ ?_; (try clear hK); (try clear K))
  refine PW.scope ?_
  refine PW.go tab_ok [] fun K hK => ?_
  simp only [go_sem, ↓reduceIte, reduceCtorEq, Nat.reduceBEq, Nat.reduceAdd, Nat.reduceMul, Nat.reduceSub, Nat.reduceLT, Nat.reduceLeDiff, Nat.reduceEqDiff]
  (refine hK _ _ ?_; (try clear hK); (try clear K))
  refine PW.seq_k fun K1 hK1 => PW.label (hK1 _ _ ?_)
  clear hK1 K1
  refine PW.seq_k fun K0 hK0 => ?_
  refine PW.block (PW.loop (α := Nat × Nat) (fun a => [(3, .int .i64 (a.1 : Int)), (0, .str s)]) (fun _ => ⟨[], []⟩)
    (fun a => a.1 ≤ s.length ∧ s.length - a.1 ≤ a.2 ∧ a.1 + blankF a.2 (s.drop a.1) = blankN s) (fun a => a.2) (0, s.length) ⟨Nat.zero_le _, by simp, by simp [blankN]⟩ ?_ rfl (fun _ _ => ⟨rfl, rfl⟩) ?_)
  · simp [Sub, eget]
  rintro ⟨k, n⟩ ⟨hk, hn, he⟩
  simp only at hk hn he
  have hstop : ∀ {env : Env} {st : St}, Sub env [(3, .int .i64 (k : Int))] → st = ⟨[], []⟩ → blankF n (s.drop k) = 0 → K0 env st := by
    rintro env st hsub rfl hr
    refine hK0 _ _ (PW.less _ hsub ?_)
    refine PW.go tab_ok [] fun K hK => ?_
    simp only [go_sem, ↓reduceIte, reduceCtorEq, Nat.reduceBEq, Nat.reduceAdd, Nat.reduceMul, Nat.reduceSub, Nat.reduceLT, Nat.reduceLeDiff, Nat.reduceEqDiff]
    (refine hK _ _ ?_; (try clear hK); (try clear K))
    exact PW.ret (Pure.ret rfl (by rw [← he, hr]; rfl) rfl)
  have h0 : (0 : Int) ≤ (k : Int) := by omega
  have h0' : (k : Int) ≤ (s.length : Int) := by omega
  refine PW.seq_k fun K2 hK2 => ?_
  refine PW.go tab_ok [] fun K hK => ?_
  simp only [go_sem, ↓reduceIte, reduceCtorEq, Nat.reduceBEq, Nat.reduceAdd, Nat.reduceMul, Nat.reduceSub, Nat.reduceLT, Nat.reduceLeDiff, Nat.reduceEqDiff]
  (refine hK _ _ ?_; (try clear hK); (try clear K))
  refine PW.cond_split (b := decide ((k : Int) < (s.length : Int))) rfl ?_ ?_ <;> intro hb
  · have hlt : k < s.length := by simpa using hb
    obtain ⟨m, rfl⟩ : ∃ m, n = m + 1 := ⟨n - 1, by omega⟩
    have hget : s[((k : Int)).toNat]? = some s[k] := by simp [hlt]
    have hdr : s.drop k = s[k] :: s.drop (k + 1) := List.drop_eq_getElem_cons hlt
    refine PW.skip (hK2 _ _ ?_)
    clear hK2 K2
    refine PW.block ?_
    refine PW.seq_k fun K3 hK3 => ?_
    refine PW.go tab_ok [] fun K hK => ?_
    simp only [h0, hget, go_sem, ↓reduceIte, reduceCtorEq, Nat.reduceBEq, Nat.reduceAdd, Nat.reduceMul, Nat.reduceSub, Nat.reduceLT, Nat.reduceLeDiff, Nat.reduceEqDiff]
    (refine hK _ _ ?_; (try clear hK); (try clear K))
    generalize s[k] = c at hget hdr
    have hgo : ∀ (q : Nat), 0 < q → k + q ≤ s.length → q + blankF m ((s.drop k).drop q) = blankF (m + 1) (s.drop k) → (k + q) + blankF m (s.drop (k + q)) = blankN s := by
      intro q _ _ e
      rw [← he, ← e, List.drop_drop]
      omega
    refine PW.block ?_
    refine PW.seq_k fun K4 hK4 => ?_
    have hsw : ∀ {env : Env} {st : St}, Sub env [(11, .bool (blankB c)), (10, .int .u8 (c.toNat : Int)), (3, .int .i64 (k : Int)), (0, .str s)] → st = ⟨[], []⟩ → K4 env st := by
      rintro env st hsub rfl
      refine hK4 _ _ (PW.less _ hsub ?_)
      clear hK4 K4
      refine PW.cond_split (b := blankB c) rfl ?_ ?_ <;> intro hb
      · refine PW.go tab_ok [] fun K hK => ?_
        simp only [go_sem, ↓reduceIte, reduceCtorEq, Nat.reduceBEq, Nat.reduceAdd, Nat.reduceMul, Nat.reduceSub, Nat.reduceLT, Nat.reduceLeDiff, Nat.reduceEqDiff]
        (refine hK _ _ ?_; (try clear hK); (try clear K))
        refine PW.exit ?_
        have hw : IntKind.i64.wrap ((k : Int) + 1) = ((k + 1 : Nat) : Int) := by
          rw [show (k : Int) + 1 = ((k + 1 : Nat) : Int) from by omega]
          exact wrap_nat (by omega)
        refine ⟨(k + 1, m), ⟨by simp only; omega, by simp only; omega, ?_⟩, by simp, by simp [Sub, eget, hw], ⟨by simp, rfl, by simp⟩, rfl⟩
        refine hgo 1 (by omega) (by omega) ?_
        rw [hdr]
        simp [blankF, hb]
      · have hnb : ¬ blankB c = true := by simp [hb]
        refine PW.go tab_ok [] fun K hK => ?_
        simp only [go_sem, ↓reduceIte, reduceCtorEq, Nat.reduceBEq, Nat.reduceAdd, Nat.reduceMul, Nat.reduceSub, Nat.reduceLT, Nat.reduceLeDiff, Nat.reduceEqDiff]
        (refine hK _ _ ?_; (try clear hK); (try clear K))
        refine PW.cond_split (b := (c.toNat : Int) == 45) rfl ?_ ?_ <;> intro hb2
        · refine PW.go tab_ok [] fun K hK => ?_
          simp only [h0, h0', Int.toNat_natCast, go_sem, ↓reduceIte, reduceCtorEq, Nat.reduceBEq, Nat.reduceAdd, Nat.reduceMul, Nat.reduceSub, Nat.reduceLT, Nat.reduceLeDiff, Nat.reduceEqDiff]
          refine (hasPrefix_pc (s.drop k) sDash).use (Weaks.refl _) rfl rfl ?_
          refine PO.go tab_ok [] ?_
          simp only [go_sem, ↓reduceIte, reduceCtorEq, Nat.reduceBEq, Nat.reduceAdd, Nat.reduceMul, Nat.reduceSub, Nat.reduceLT, Nat.reduceLeDiff, Nat.reduceEqDiff]
          (refine hK _ _ ?_; (try clear hK); (try clear K))
          refine PW.cond_split (b := prefB (s.drop k) sDash) rfl ?_ ?_ <;> intro hb3
          · refine PW.go tab_ok [] fun K hK => ?_
            simp only [h0, h0', Int.toNat_natCast, go_sem, ↓reduceIte, reduceCtorEq, Nat.reduceBEq, Nat.reduceAdd, Nat.reduceMul, Nat.reduceSub, Nat.reduceLT, Nat.reduceLeDiff, Nat.reduceEqDiff]
            refine (lexrow_pc line_pc (s := s.drop k) (by simp; omega)).use (Weaks.refl _) rfl rfl ?_
            refine PO.go tab_ok [] ?_
            simp only [go_sem, ↓reduceIte, reduceCtorEq, Nat.reduceBEq, Nat.reduceAdd, Nat.reduceMul, Nat.reduceSub, Nat.reduceLT, Nat.reduceLeDiff, Nat.reduceEqDiff]
            (refine hK _ _ ?_; (try clear hK); (try clear K))
            refine PW.exit ?_
            have h2 := rowN_dash hb3
            have h3 := rowN_le lineB (s.drop k)
            simp only [List.length_drop] at h3
            have hw : IntKind.i64.wrap ((k : Int) + (rowN lineB (s.drop k) : Int)) = ((k + rowN lineB (s.drop k) : Nat) : Int) := by
              rw [show (k : Int) + (rowN lineB (s.drop k) : Int) = ((k + rowN lineB (s.drop k) : Nat) : Int) from by omega]
              exact wrap_nat (by omega)
            refine ⟨(k + rowN lineB (s.drop k), m), ⟨by simp only; omega, by simp only; omega, ?_⟩, by simp, by simp [Sub, eget, hw], ⟨by simp, rfl, by simp⟩, rfl⟩
            refine hgo _ (by omega) (by omega) ?_
            have : blankF (m + 1) (s.drop k) = rowN lineB (s.drop k) + blankF m ((s.drop k).drop (rowN lineB (s.drop k))) := by
              conv => lhs; rw [hdr]
              simp only [blankF, if_neg hnb]
              rw [← hdr, hb2, hb3]
              rfl
            rw [this]
          · refine PW.skip (hK3 _ _ (PW.exit (hstop (by simp [Sub, eget]) rfl ?_)))
            rw [hdr]
            simp only [blankF, if_neg hnb]
            rw [← hdr, hb3]
            simp
        · refine PW.skip (hK3 _ _ (PW.exit (hstop (by simp [Sub, eget]) rfl ?_)))
          rw [hdr]
          simp only [blankF, if_neg hnb, hb2]
          simp
    refine PW.go tab_ok [] fun K hK => ?_
    simp only [go_sem, ↓reduceIte, reduceCtorEq, Nat.reduceBEq, Nat.reduceAdd, Nat.reduceMul, Nat.reduceSub, Nat.reduceLT, Nat.reduceLeDiff, Nat.reduceEqDiff]
    (refine hK _ _ ?_; (try clear hK); (try clear K))
    refine PW.cond_split (b := (c.toNat : Int) == 9) rfl ?_ ?_ <;> intro hb1
    · exact PW.skip (hsw (by simp [Sub, eget, blankB, hb1]) rfl)
    refine PW.go tab_ok [] fun K hK => ?_
    simp only [go_sem, ↓reduceIte, reduceCtorEq, Nat.reduceBEq, Nat.reduceAdd, Nat.reduceMul, Nat.reduceSub, Nat.reduceLT, Nat.reduceLeDiff, Nat.reduceEqDiff]
    (refine hK _ _ ?_; (try clear hK); (try clear K))
    refine PW.cond_split (b := (c.toNat : Int) == 10) rfl ?_ ?_ <;> intro hb2
    · exact PW.skip (hsw (by simp [Sub, eget, blankB, hb1, hb2]) rfl)
    refine PW.go tab_ok [] fun K hK => ?_
    simp only [go_sem, ↓reduceIte, reduceCtorEq, Nat.reduceBEq, Nat.reduceAdd, Nat.reduceMul, Nat.reduceSub, Nat.reduceLT, Nat.reduceLeDiff, Nat.reduceEqDiff]
    (refine hK _ _ ?_; (try clear hK); (try clear K))
    refine PW.cond_split (b := (c.toNat : Int) == 13) rfl ?_ ?_ <;> intro hb3
    · exact PW.skip (hsw (by simp [Sub, eget, blankB, hb1, hb2, hb3]) rfl)
    refine PW.goL tab_ok [] fun K hK => ?_
    simp only [go_sem, ↓reduceIte, reduceCtorEq, Nat.reduceBEq, Nat.reduceAdd, Nat.reduceMul, Nat.reduceSub, Nat.reduceLT, Nat.reduceLeDiff, Nat.reduceEqDiff]
    (refine hK _ _ ?_; (try clear hK); (try clear K))
    exact hsw (by simp [Sub, eget, blankB, hb1, hb2, hb3]) rfl
  · have hge : ¬ k < s.length := by simpa using hb
    have hnil : s.drop k = [] := List.drop_eq_nil_of_le (by omega)
    refine PW.exit (hstop (by simp [Sub, eget]) rfl ?_)
    rw [hnil]
    cases n <;> rfl
end Go.Proofs.Ytolhbjfaahcekaa
end
section
/- The lexer: numbers. -/
set_option linter.unusedVariables false
set_option linter.unusedSimpArgs false
namespace Go.Proofs.Ytolhbjfaahcekaa
open Go

def dgI (c : UInt8) : Int := IntKind.i64.wrap (IntKind.u8.wrap ((c.toNat : Int) - 48))
def numBad (n : Int) (c : UInt8) : Bool := decide (n > 922337203685477580) || ((n == 922337203685477580) && decide (dgI c > 7))
def numStep (n : Int) (c : UInt8) : Int := IntKind.i64.wrap (IntKind.i64.wrap (10 * n) + dgI c)
def numF : Int → Str → Int × Int
  | n, [] => (n, 0)
  | n, c :: r => if numBad n c then (0, 7) else numF (numStep n c) r
theorem number_pc {s : Str} (hl : s.length ≤ 1000000) : Pure Try.prog 61 [.str s] (.tup [.int .i64 (numF 0 s).1, .int .i64 (numF 0 s).2]) := by
  refine PC.intro tab_ok Try.func61 rfl (by kernel_rfl) Try.ntmps61 (Nat.le_of_ble_eq_true rfl) (rs := _) (congrArg Array.toList Try.results61) ?_
  refine PW.go tab_ok [] fun K hK => ?_
  simp only [go_sem, ↓reduceIte, reduceCtorEq, Nat.reduceBEq, Nat.reduceAdd, Nat.reduceMul, Nat.reduceSub, Nat.reduceLT, Nat.reduceLeDiff, Nat.reduceEqDiff]
  (refine hK _ _ ?_; (try clear hK); (try clear K))
  refine PW.go tab_ok [] fun K hK => ?_
  simp only [go_sem, ↓reduceIte, reduceCtorEq, Nat.reduceBEq, Nat.reduceAdd, Nat.reduceMul, Nat.reduceSub, Nat.reduceLT, Nat.reduceLeDiff, Nat.reduceEqDiff]
  (refine hK _ _ ?_; (try clear hK); (try clear K))
  refine PW.seq_k fun K0 hK0 => ?_
  refine PW.go tab_ok [] fun K hK => ?_
  simp only [go_sem, ↓reduceIte, reduceCtorEq, Nat.reduceBEq, Nat.reduceAdd, Nat.reduceMul, Nat.reduceSub, Nat.reduceLT, Nat.reduceLeDiff, Nat.reduceEqDiff]
  (refine hK _ _ ?_; (try clear hK); (try clear K))
  refine PW.block (PW.loop (α := Nat × Int) (fun a => [(9, .int .i64 (a.1 : Int)), (8, .int .i64 (s.length : Int)), (4, .int .i64 a.2), (0, .str s)]) (fun _ => ⟨[], []⟩)
    (fun a => a.1 ≤ s.length ∧ numF a.2 (s.drop a.1) = numF 0 s) (fun a => s.length - a.1) (0, 0) ⟨Nat.zero_le _, rfl⟩ ?_ rfl (fun _ _ => ⟨rfl, rfl⟩) ?_)
  · simp [Sub, eget]
  rintro ⟨k, n⟩ ⟨hk, he⟩
  simp only at hk he
  refine PW.go tab_ok [] fun K hK => ?_
  simp only [go_sem, ↓reduceIte, reduceCtorEq, Nat.reduceBEq, Nat.reduceAdd, Nat.reduceMul, Nat.reduceSub, Nat.reduceLT, Nat.reduceLeDiff, Nat.reduceEqDiff]
  (refine hK _ _ ?_; (try clear hK); (try clear K))
  refine PW.seq_k fun K2 hK2 => ?_
  refine PW.cond_split (b := decide ((k : Int) < (s.length : Int))) rfl ?_ ?_ <;> intro hb
  · have hlt : k < s.length := by simpa using hb
    have h0 : (0 : Int) ≤ (k : Int) := by omega
    have hget : s[((k : Int)).toNat]? = some s[k] := by simp [hlt]
    have hdr : s.drop k = s[k] :: s.drop (k + 1) := List.drop_eq_getElem_cons hlt
    refine PW.skip (hK2 _ _ ?_)
    clear hK2 K2
    refine PW.seq_k fun K3 hK3 => PW.block ?_
    generalize s[k] = c at hget hdr
    rw [hdr] at he
    refine PW.go tab_ok [] fun K hK => ?_
    simp only [go_sem, ↓reduceIte, reduceCtorEq, Nat.reduceBEq, Nat.reduceAdd, Nat.reduceMul, Nat.reduceSub, Nat.reduceLT, Nat.reduceLeDiff, Nat.reduceEqDiff]
    (refine hK _ _ ?_; (try clear hK); (try clear K))
    refine PW.go tab_ok [] fun K hK => ?_
    simp only [h0, hget, go_sem, ↓reduceIte, reduceCtorEq, Nat.reduceBEq, Nat.reduceAdd, Nat.reduceMul, Nat.reduceSub, Nat.reduceLT, Nat.reduceLeDiff, Nat.reduceEqDiff]
    (refine hK _ _ ?_; (try clear hK); (try clear K))
    have hd' : IntKind.i64.wrap (IntKind.u8.wrap ((c.toNat : Int) - 48)) = dgI c := rfl
    refine PW.seq_k fun K4 hK4 => ?_
    have hbad : numBad n c = true → numF 0 s = (0, 7) := by
      intro hbd
      rw [← he]
      simp [numF, hbd]
    have hgood : ∀ {env : Env} {st : St}, Sub env [(9, .int .i64 (k : Int)), (8, .int .i64 (s.length : Int)), (6, .int .i64 (dgI c)), (4, .int .i64 n), (0, .str s)] → st = ⟨[], []⟩ → numBad n c = false → K4 env st := by
      rintro env st hsub rfl hbd
      refine hK4 _ _ (PW.less _ hsub ?_)
      refine PW.goL tab_ok [] fun K hK => ?_
      simp only [go_sem, ↓reduceIte, reduceCtorEq, Nat.reduceBEq, Nat.reduceAdd, Nat.reduceMul, Nat.reduceSub, Nat.reduceLT, Nat.reduceLeDiff, Nat.reduceEqDiff]
      (refine hK _ _ ?_; (try clear hK); (try clear K))
      refine hK3 _ _ ?_
      refine PW.goL tab_ok [] fun K hK => ?_
      simp only [go_sem, ↓reduceIte, reduceCtorEq, Nat.reduceBEq, Nat.reduceAdd, Nat.reduceMul, Nat.reduceSub, Nat.reduceLT, Nat.reduceLeDiff, Nat.reduceEqDiff]
      (refine hK _ _ ?_; (try clear hK); (try clear K))
      have hw : IntKind.i64.wrap ((k : Int) + 1) = ((k + 1 : Nat) : Int) := by
        rw [show (k : Int) + 1 = ((k + 1 : Nat) : Int) from by omega]
        exact wrap_nat (by omega)
      refine ⟨(k + 1, numStep n c), ⟨by simp only; omega, ?_⟩, by simp only; omega, by simp [Sub, eget, hw, numStep], ⟨by simp, rfl, by simp⟩, rfl⟩
      rw [← he]
      simp [numF, hbd]
    refine PW.go tab_ok [] fun K hK => ?_
    cases h1 : decide (n > 922337203685477580)
    · cases h2 : n == 922337203685477580
      · simp only [h1, h2, hd', go_sem, ↓reduceIte, reduceCtorEq, Nat.reduceBEq, Nat.reduceAdd, Nat.reduceMul, Nat.reduceSub, Nat.reduceLT, Nat.reduceLeDiff, Nat.reduceEqDiff]
        (refine hK _ _ ?_; (try clear hK); (try clear K))
        refine PW.cond_split (b := false) rfl ?_ ?_ <;> intro hb
        · cases hb
        exact PW.skip (hgood (by simp [Sub, eget]) rfl (by simp only [numBad, h1, h2]; rfl))
      · cases h3 : decide (dgI c > 7)
        · simp only [h1, h2, h3, hd', go_sem, ↓reduceIte, reduceCtorEq, Nat.reduceBEq, Nat.reduceAdd, Nat.reduceMul, Nat.reduceSub, Nat.reduceLT, Nat.reduceLeDiff, Nat.reduceEqDiff]
          (refine hK _ _ ?_; (try clear hK); (try clear K))
          refine PW.cond_split (b := false) rfl ?_ ?_ <;> intro hb
          · cases hb
          exact PW.skip (hgood (by simp [Sub, eget]) rfl (by simp only [numBad, h1, h2, h3]; rfl))
        · simp only [h1, h2, h3, hd', go_sem, ↓reduceIte, reduceCtorEq, Nat.reduceBEq, Nat.reduceAdd, Nat.reduceMul, Nat.reduceSub, Nat.reduceLT, Nat.reduceLeDiff, Nat.reduceEqDiff]
          (refine hK _ _ ?_; (try clear hK); (try clear K))
          refine PW.cond_split (b := true) rfl ?_ ?_ <;> intro hb
          · refine PW.go tab_ok [] fun K hK => ?_
            simp only [go_sem, ↓reduceIte, reduceCtorEq, Nat.reduceBEq, Nat.reduceAdd, Nat.reduceMul, Nat.reduceSub, Nat.reduceLT, Nat.reduceLeDiff, Nat.reduceEqDiff]
            (refine hK _ _ ?_; (try clear hK); (try clear K))
            exact PW.ret (Pure.ret rfl (by rw [hbad (by simp only [numBad, h1, h2, h3]; rfl)]; rfl) rfl)
          · cases hb
    · simp only [h1, hd', go_sem, ↓reduceIte, reduceCtorEq, Nat.reduceBEq, Nat.reduceAdd, Nat.reduceMul, Nat.reduceSub, Nat.reduceLT, Nat.reduceLeDiff, Nat.reduceEqDiff]
      (refine hK _ _ ?_; (try clear hK); (try clear K))
      refine PW.cond_split (b := true) rfl ?_ ?_ <;> intro hb
      · refine PW.go tab_ok [] fun K hK => ?_
        simp only [go_sem, ↓reduceIte, reduceCtorEq, Nat.reduceBEq, Nat.reduceAdd, Nat.reduceMul, Nat.reduceSub, Nat.reduceLT, Nat.reduceLeDiff, Nat.reduceEqDiff]
        (refine hK _ _ ?_; (try clear hK); (try clear K))
        exact PW.ret (Pure.ret rfl (by rw [hbad (by simp only [numBad, h1]; rfl)]; rfl) rfl)
      · cases hb
  · have hge : ¬ k < s.length := by simpa using hb
    have hnil : s.drop k = [] := List.drop_eq_nil_of_le (by omega)
    rw [hnil] at he
    refine PW.exit (hK0 _ _ ?_)
    refine PW.go tab_ok [] fun K hK => ?_
    simp only [go_sem, ↓reduceIte, reduceCtorEq, Nat.reduceBEq, Nat.reduceAdd, Nat.reduceMul, Nat.reduceSub, Nat.reduceLT, Nat.reduceLeDiff, Nat.reduceEqDiff]
    (refine hK _ _ ?_; (try clear hK); (try clear K))
    exact PW.ret (Pure.ret rfl (by rw [← he]; rfl) rfl)
end Go.Proofs.Ytolhbjfaahcekaa
end
section
/- The lexer: names, words, numbers. -/
set_option linter.unusedVariables false
set_option linter.unusedSimpArgs false
namespace Go.Proofs.Ytolhbjfaahcekaa
open Go

def wordsL : List Str := [[65, 78, 68], [66, 89], [67, 79, 85, 78, 84], [67, 82, 69, 65, 84, 69], [68, 69, 76, 69, 84, 69], [68, 69, 83, 67], [68, 82, 79, 80], [70, 82, 79, 77], [71, 82, 79, 85, 80], [73, 78, 83, 69, 82, 84], [73, 78, 84], [73, 78, 84, 79], [73, 83], [74, 79, 73, 78], [75, 69, 89], [76, 73, 77, 73, 84], [77, 65, 88], [77, 73, 78], [78, 79, 84], [78, 85, 76, 76], [79, 78], [79, 82], [79, 82, 68, 69, 82], [80, 82, 73, 77, 65, 82, 89], [83, 69, 76, 69, 67, 84], [83, 69, 84], [83, 85, 77], [84, 65, 66, 76, 69], [84, 69, 88, 84], [85, 78, 73, 81, 85, 69], [85, 80, 68, 65, 84, 69], [86, 65, 76, 85, 69, 83], [87, 72, 69, 82, 69]]
def signsL : List Str := [[60, 62], [60, 61], [62, 61], [40], [41], [44], [59], [46], [42], [43], [45], [47], [37], [61], [60], [62]]
theorem words_pc : Pure Try.prog 60 [] (.list 1 (strs wordsL) .no) := by
  refine PC.intro tab_ok Try.func60 rfl (by kernel_rfl) Try.ntmps60 (Nat.le_of_ble_eq_true rfl) (rs := _) (congrArg Array.toList Try.results60) ?_
  refine PW.go tab_ok [] fun K hK => ?_
  simp only [go_sem, ↓reduceIte, reduceCtorEq, Nat.reduceBEq, Nat.reduceAdd, Nat.reduceMul, Nat.reduceSub, Nat.reduceLT, Nat.reduceLeDiff, Nat.reduceEqDiff]
  (refine hK _ _ ?_; (try clear hK); (try clear K))
  refine PW.go tab_ok [] fun K hK => ?_
  simp only [go_sem, ↓reduceIte, reduceCtorEq, Nat.reduceBEq, Nat.reduceAdd, Nat.reduceMul, Nat.reduceSub, Nat.reduceLT, Nat.reduceLeDiff, Nat.reduceEqDiff]
  (refine hK _ _ ?_; (try clear hK); (try clear K))
  exact PW.ret (Pure.ret rfl rfl rfl)
theorem signs_pc : Pure Try.prog 37 [] (.list 1 (strs signsL) .no) := by
  refine PC.intro tab_ok Try.func37 rfl (by kernel_rfl) Try.ntmps37 (Nat.le_of_ble_eq_true rfl) (rs := _) (congrArg Array.toList Try.results37) ?_
  refine PW.go tab_ok [] fun K hK => ?_
  simp only [go_sem, ↓reduceIte, reduceCtorEq, Nat.reduceBEq, Nat.reduceAdd, Nat.reduceMul, Nat.reduceSub, Nat.reduceLT, Nat.reduceLeDiff, Nat.reduceEqDiff]
  (refine hK _ _ ?_; (try clear hK); (try clear K))
  refine PW.go tab_ok [] fun K hK => ?_
  simp only [go_sem, ↓reduceIte, reduceCtorEq, Nat.reduceBEq, Nat.reduceAdd, Nat.reduceMul, Nat.reduceSub, Nat.reduceLT, Nat.reduceLeDiff, Nat.reduceEqDiff]
  (refine hK _ _ ?_; (try clear hK); (try clear K))
  exact PW.ret (Pure.ret rfl rfl rfl)
def glued (s : Str) (n : Nat) : Bool := match s[n]? with
  | some c => smallB c || greatB c
  | none => false
/-- A name, a word or a number of so many bytes. -/
def plainM (s : Str) (n : Nat) : Tok × Int :=
  if glued s n then (⟨0, s.take n, 0, 0⟩, 4)
  else match s with
    | [] => (tok0, 0)
    | c :: _ => if greatB c then (⟨2, s.take n, 0, 0⟩, if 0 ≤ idxF wordsL (s.take n) then 0 else 4)
      else if firstB c then (⟨1, s.take n, 0, 0⟩, if (n : Int) > 16 then 2 else 0)
      else (⟨3, [], (numF 0 (s.take n)).1, 0⟩, (numF 0 (s.take n)).2)
theorem plain_pc {c : UInt8} {r : Str} {n : Nat} (hn : n ≤ (c :: r).length) (hl : (c :: r).length ≤ 1000000) :
    Pure Try.prog 38 [.str (c :: r), .int .i64 (n : Int)] (.tup [tokPV (plainM (c :: r) n).1, .int .i64 (plainM (c :: r) n).2]) := by
  have h0 : (0 : Int) ≤ (n : Int) := by omega
  have h0' : (n : Int) ≤ ((c :: r).length : Int) := by omega
  generalize hs : c :: r = s at hn hl h0'
  refine PC.intro tab_ok Try.func38 rfl (by kernel_rfl) Try.ntmps38 (Nat.le_of_ble_eq_true rfl) (rs := _) (congrArg Array.toList Try.results38) ?_
  refine PW.go tab_ok [] fun K hK => ?_
  simp only [go_sem, ↓reduceIte, reduceCtorEq, Nat.reduceBEq, Nat.reduceAdd, Nat.reduceMul, Nat.reduceSub, Nat.reduceLT, Nat.reduceLeDiff, Nat.reduceEqDiff]
  (refine hK _ _ ?_; (try clear hK); (try clear K))
  refine PW.go tab_ok [] fun K hK => ?_
  simp only [h0, h0', Int.toNat_natCast, go_sem, ↓reduceIte, reduceCtorEq, Nat.reduceBEq, Nat.reduceAdd, Nat.reduceMul, Nat.reduceSub, Nat.reduceLT, Nat.reduceLeDiff, Nat.reduceEqDiff]
  (refine hK _ _ ?_; (try clear hK); (try clear K))
  refine PW.seq_k fun K0 hK0 => ?_
  have hgood : ∀ {env : Env} {st : St}, Sub env [(4, .ref 0 0), (5, .int .i64 0), (0, .str s), (1, .int .i64 (n : Int))] → st = ⟨[[.int .i64 0, .str (s.take n), .int .i64 0, .int .i64 0]], []⟩ → glued s n = false → K0 env st := by
    rintro env st hsub rfl hg
    refine hK0 _ _ (PW.less _ hsub ?_)
    clear hK0 K0
    refine PW.seq_k fun K1 hK1 => ?_
    have hend : ∀ {env : Env} {st : St} (t : Tok) (e : Int), Sub env [(4, .ref 0 0), (5, .int .i64 e)] → st = ⟨[[.int .i64 t.kind, .str t.text, .int .i64 t.num, .int .i64 t.at_]], []⟩ → plainM s n = (t, e) → K1 env st := by
      rintro env st t e hsub rfl hp
      refine hK1 _ _ (PW.less _ hsub ?_)
      refine PW.go tab_ok [] fun K hK => ?_
      simp only [go_sem, ↓reduceIte, reduceCtorEq, Nat.reduceBEq, Nat.reduceAdd, Nat.reduceMul, Nat.reduceSub, Nat.reduceLT, Nat.reduceLeDiff, Nat.reduceEqDiff]
      (refine hK _ _ ?_; (try clear hK); (try clear K))
      exact PW.ret (Pure.ret rfl (by rw [hp]; rfl) rfl)
    have hget0 : s[0]? = some c := by rw [← hs]; rfl
    have hpm : plainM s n = if greatB c then (⟨2, s.take n, 0, 0⟩, if 0 ≤ idxF wordsL (s.take n) then 0 else 4)
      else if firstB c then (⟨1, s.take n, 0, 0⟩, if (n : Int) > 16 then 2 else 0)
      else (⟨3, [], (numF 0 (s.take n)).1, 0⟩, (numF 0 (s.take n)).2) := by
      subst hs
      simp only [plainM, hg]
      rfl
    refine PW.block ?_
    refine PW.go tab_ok [] fun K hK => ?_
    simp only [hget0, Int.le_refl, go_sem, ↓reduceIte, reduceCtorEq, Nat.reduceBEq, Nat.reduceAdd, Nat.reduceMul, Nat.reduceSub, Nat.reduceLT, Nat.reduceLeDiff, Nat.reduceEqDiff]
    refine (great_pc c).use (Weaks.refl _) rfl rfl ?_
    refine PO.go tab_ok [] ?_
    simp only [go_sem, ↓reduceIte, reduceCtorEq, Nat.reduceBEq, Nat.reduceAdd, Nat.reduceMul, Nat.reduceSub, Nat.reduceLT, Nat.reduceLeDiff, Nat.reduceEqDiff]
    (refine hK _ _ ?_; (try clear hK); (try clear K))
    refine PW.cond_split (b := greatB c) rfl ?_ ?_ <;> intro hb1
    · refine PW.go tab_ok [] fun K hK => ?_
      simp only [go_sem, ↓reduceIte, reduceCtorEq, Nat.reduceBEq, Nat.reduceAdd, Nat.reduceMul, Nat.reduceSub, Nat.reduceLT, Nat.reduceLeDiff, Nat.reduceEqDiff]
      (refine hK _ _ ?_; (try clear hK); (try clear K))
      refine PW.draws tab_ok mixed [] [(1, []), (2, []), (0, [2]), (3, []), (4, [])] (by kernel_rfl) fun K hK => ?_
      simp only [go_sem, ↓reduceIte, reduceCtorEq, Nat.reduceBEq, Nat.reduceAdd, Nat.reduceMul, Nat.reduceSub, Nat.reduceLT, Nat.reduceLeDiff, Nat.reduceEqDiff]
      refine words_pc.use (Weaks.refl _) rfl rfl ?_
      refine ⟨?_, GO.go tab_ok ?_⟩
      · simp only [go_sem, ↓reduceIte, reduceCtorEq, Nat.reduceBEq, Nat.reduceAdd, Nat.reduceMul, Nat.reduceSub, Nat.reduceLT, Nat.reduceLeDiff, Nat.reduceEqDiff]
      simp only [go_sem, ↓reduceIte, reduceCtorEq, Nat.reduceBEq, Nat.reduceAdd, Nat.reduceMul, Nat.reduceSub, Nat.reduceLT, Nat.reduceLeDiff, Nat.reduceEqDiff]
      refine (contains_pc wordsL (s.take n) (by decide)).use (Weaks.refl _) rfl rfl ?_
      refine GO.go tab_ok ?_
      simp only [go_sem, ↓reduceIte, reduceCtorEq, Nat.reduceBEq, Nat.reduceAdd, Nat.reduceMul, Nat.reduceSub, Nat.reduceLT, Nat.reduceLeDiff, Nat.reduceEqDiff]
      (refine hK _ _ ?_; (try clear hK); (try clear K))
      refine PW.cond_split (b := !decide (idxF wordsL (s.take n) ≥ 0)) rfl ?_ ?_ <;> intro hb2
      · have h2 : ¬ 0 ≤ idxF wordsL (s.take n) := by simpa using hb2
        refine PW.goL tab_ok [] fun K hK => ?_
        simp only [go_sem, ↓reduceIte, reduceCtorEq, Nat.reduceBEq, Nat.reduceAdd, Nat.reduceMul, Nat.reduceSub, Nat.reduceLT, Nat.reduceLeDiff, Nat.reduceEqDiff]
        (refine hK _ _ ?_; (try clear hK); (try clear K))
        exact hend ⟨2, s.take n, 0, 0⟩ 4 (by simp [Sub, eget]) rfl (by rw [hpm, hb1, if_neg h2]; rfl)
      · have h2 : 0 ≤ idxF wordsL (s.take n) := by simpa using hb2
        exact PW.skip (hend ⟨2, s.take n, 0, 0⟩ 0 (by simp [Sub, eget]) rfl (by rw [hpm, hb1, if_pos h2]; rfl))
    refine PW.go tab_ok [] fun K hK => ?_
    simp only [hget0, Int.le_refl, go_sem, ↓reduceIte, reduceCtorEq, Nat.reduceBEq, Nat.reduceAdd, Nat.reduceMul, Nat.reduceSub, Nat.reduceLT, Nat.reduceLeDiff, Nat.reduceEqDiff]
    refine (first_pc c).use (Weaks.refl _) rfl rfl ?_
    refine PO.go tab_ok [] ?_
    simp only [go_sem, ↓reduceIte, reduceCtorEq, Nat.reduceBEq, Nat.reduceAdd, Nat.reduceMul, Nat.reduceSub, Nat.reduceLT, Nat.reduceLeDiff, Nat.reduceEqDiff]
    (refine hK _ _ ?_; (try clear hK); (try clear K))
    refine PW.cond_split (b := firstB c) rfl ?_ ?_ <;> intro hb2
    · refine PW.go tab_ok [] fun K hK => ?_
      simp only [go_sem, ↓reduceIte, reduceCtorEq, Nat.reduceBEq, Nat.reduceAdd, Nat.reduceMul, Nat.reduceSub, Nat.reduceLT, Nat.reduceLeDiff, Nat.reduceEqDiff]
      (refine hK _ _ ?_; (try clear hK); (try clear K))
      refine PW.go tab_ok [] fun K hK => ?_
      simp only [go_sem, ↓reduceIte, reduceCtorEq, Nat.reduceBEq, Nat.reduceAdd, Nat.reduceMul, Nat.reduceSub, Nat.reduceLT, Nat.reduceLeDiff, Nat.reduceEqDiff]
      (refine hK _ _ ?_; (try clear hK); (try clear K))
      refine PW.cond_split (b := decide ((n : Int) > 16)) rfl ?_ ?_ <;> intro hb3
      · have h3 : (n : Int) > 16 := by simpa using hb3
        refine PW.goL tab_ok [] fun K hK => ?_
        simp only [go_sem, ↓reduceIte, reduceCtorEq, Nat.reduceBEq, Nat.reduceAdd, Nat.reduceMul, Nat.reduceSub, Nat.reduceLT, Nat.reduceLeDiff, Nat.reduceEqDiff]
        (refine hK _ _ ?_; (try clear hK); (try clear K))
        exact hend ⟨1, s.take n, 0, 0⟩ 2 (by simp [Sub, eget]) rfl (by rw [hpm, hb1, hb2, if_pos h3]; rfl)
      · have h3 : ¬ (n : Int) > 16 := by simpa using hb3
        exact PW.skip (hend ⟨1, s.take n, 0, 0⟩ 0 (by simp [Sub, eget]) rfl (by rw [hpm, hb1, hb2, if_neg h3]; rfl))
    refine PW.go tab_ok [] fun K hK => ?_
    simp only [go_sem, ↓reduceIte, reduceCtorEq, Nat.reduceBEq, Nat.reduceAdd, Nat.reduceMul, Nat.reduceSub, Nat.reduceLT, Nat.reduceLeDiff, Nat.reduceEqDiff]
    (refine hK _ _ ?_; (try clear hK); (try clear K))
    refine PW.goL tab_ok [] fun K hK => ?_
    simp only [h0, h0', Int.toNat_natCast, go_sem, ↓reduceIte, reduceCtorEq, Nat.reduceBEq, Nat.reduceAdd, Nat.reduceMul, Nat.reduceSub, Nat.reduceLT, Nat.reduceLeDiff, Nat.reduceEqDiff]
    refine (number_pc (s := s.take n) (by simp; omega)).use (Weaks.refl _) rfl rfl ?_
    refine PO.go tab_ok [] ?_
    simp only [go_sem, ↓reduceIte, reduceCtorEq, Nat.reduceBEq, Nat.reduceAdd, Nat.reduceMul, Nat.reduceSub, Nat.reduceLT, Nat.reduceLeDiff, Nat.reduceEqDiff]
    (refine hK _ _ ?_; (try clear hK); (try clear K))
    exact hend ⟨3, [], (numF 0 (s.take n)).1, 0⟩ (numF 0 (s.take n)).2 (by simp [Sub, eget]) rfl (by rw [hpm, hb1, hb2]; rfl)
  refine PW.go tab_ok [] fun K hK => ?_
  have hbad : glued s n = true → plainM s n = (⟨0, s.take n, 0, 0⟩, 4) := by
    intro hg
    simp only [plainM, hg, if_true]
  by_cases hlt : n < s.length
  · have h1 : decide ((n : Int) < (s.length : Int)) = true := by simpa using hlt
    have hget : s[((n : Int)).toNat]? = some s[n] := by simp [hlt]
    have hgl' : glued s n = (smallB s[n] || greatB s[n]) := by simp [glued, hlt]
    simp only [h0, h1, hget, go_sem, ↓reduceIte, reduceCtorEq, Nat.reduceBEq, Nat.reduceAdd, Nat.reduceMul, Nat.reduceSub, Nat.reduceLT, Nat.reduceLeDiff, Nat.reduceEqDiff]
    refine (small_pc s[n]).use (Weaks.refl _) rfl rfl ?_
    refine PO.go tab_ok [] ?_
    cases h2 : smallB s[n]
    · simp only [h0, hget, go_sem, ↓reduceIte, reduceCtorEq, Nat.reduceBEq, Nat.reduceAdd, Nat.reduceMul, Nat.reduceSub, Nat.reduceLT, Nat.reduceLeDiff, Nat.reduceEqDiff]
      refine (great_pc s[n]).use (Weaks.refl _) rfl rfl ?_
      refine PO.go tab_ok [] ?_
      simp only [go_sem, ↓reduceIte, reduceCtorEq, Nat.reduceBEq, Nat.reduceAdd, Nat.reduceMul, Nat.reduceSub, Nat.reduceLT, Nat.reduceLeDiff, Nat.reduceEqDiff]
      (refine hK _ _ ?_; (try clear hK); (try clear K))
      refine PW.cond_split (b := greatB s[n]) rfl ?_ ?_ <;> intro hb
      · refine PW.go tab_ok [] fun K hK => ?_
        simp only [go_sem, ↓reduceIte, reduceCtorEq, Nat.reduceBEq, Nat.reduceAdd, Nat.reduceMul, Nat.reduceSub, Nat.reduceLT, Nat.reduceLeDiff, Nat.reduceEqDiff]
        (refine hK _ _ ?_; (try clear hK); (try clear K))
        exact PW.ret (Pure.ret rfl (by rw [hbad (by rw [hgl', hb]; simp)]; rfl) rfl)
      · exact PW.skip (hgood (by simp [Sub, eget]) rfl (by rw [hgl', h2, hb]; rfl))
    · simp only [go_sem, ↓reduceIte, reduceCtorEq, Nat.reduceBEq, Nat.reduceAdd, Nat.reduceMul, Nat.reduceSub, Nat.reduceLT, Nat.reduceLeDiff, Nat.reduceEqDiff]
      (refine hK _ _ ?_; (try clear hK); (try clear K))
      refine PW.cond_split (b := true) rfl ?_ ?_ <;> intro hb
      · refine PW.go tab_ok [] fun K hK => ?_
        simp only [go_sem, ↓reduceIte, reduceCtorEq, Nat.reduceBEq, Nat.reduceAdd, Nat.reduceMul, Nat.reduceSub, Nat.reduceLT, Nat.reduceLeDiff, Nat.reduceEqDiff]
        (refine hK _ _ ?_; (try clear hK); (try clear K))
        exact PW.ret (Pure.ret rfl (by rw [hbad (by rw [hgl', h2]; simp)]; rfl) rfl)
      · cases hb
  · have h1 : decide ((n : Int) < (s.length : Int)) = false := by simpa using hlt
    simp only [h1, go_sem, ↓reduceIte, reduceCtorEq, Nat.reduceBEq, Nat.reduceAdd, Nat.reduceMul, Nat.reduceSub, Nat.reduceLT, Nat.reduceLeDiff, Nat.reduceEqDiff]
    (refine hK _ _ ?_; (try clear hK); (try clear K))
    refine PW.cond_split (b := false) rfl ?_ ?_ <;> intro hb
    · cases hb
    have h9 : s[n]? = none := List.getElem?_eq_none (by omega)
    exact PW.skip (hgood (by simp [Sub, eget]) rfl (by simp only [glued, h9]))
end Go.Proofs.Ytolhbjfaahcekaa
end
section
/- Entries of the model's own: NoEscape, IndexByteString. -/
set_option linter.unusedVariables false
set_option linter.unusedSimpArgs false
namespace Go.Proofs.Ytolhbjfaahcekaa
open Go

theorem indexByteString_pc (s : Str) (c : UInt8) : Pure Try.prog 72 [.str s, bPV c] (.int .i64 (Lib.indexByte s c)) := by
  intro G w vs hi hv
  cases hv with
  | cons _ _ _ _ h1 h2 =>
  cases h2 with
  | cons _ _ _ _ h2 h3 =>
  cases h3
  cases h1
  cases h2
  refine .inr ⟨.int .i64 (Lib.indexByte s c), w, ?_, G, _, _, .refl G, hi, .int _ _, ⟨rfl, rfl⟩, Nat.le_refl _⟩
  rw [run_callFunc_extern Try.func72 (by kernel_rfl) (by kernel_rfl) (by kernel_rfl) (e := Extern.BytealgIndexByte.indexByte) (by kernel_rfl), Lib.run_indexByteString]
  simp
theorem noEscape_pc {x : PV} {st : St} : PC Try.prog 73 [x] st fun r st' => r = x ∧ st' = st := by
  intro G w vs hi hv
  cases hv with
  | cons _ v _ _ h1 h2 =>
  cases h2
  refine .inr ⟨v, w, ?_, G, _, _, .refl G, hi, h1, ⟨rfl, rfl⟩, Nat.le_refl _⟩
  rw [run_callFunc_extern Try.func73 (by kernel_rfl) (by kernel_rfl) (by kernel_rfl) (e := Extern.AbiNoEscape.same) (by kernel_rfl)]
  rfl
theorem liteIndexByte_pc (s : Str) (c : UInt8) : Pure Try.prog 69 [.str s, bPV c] (.int .i64 (Lib.indexByte s c)) := by
  refine PC.intro tab_ok Try.func69 rfl (by kernel_rfl) Try.ntmps69 (Nat.le_of_ble_eq_true rfl) (rs := _) (congrArg Array.toList Try.results69) ?_
  refine PW.go tab_ok [] fun K hK => ?_
  simp only [go_sem, ↓reduceIte, reduceCtorEq, Nat.reduceBEq, Nat.reduceAdd, Nat.reduceMul, Nat.reduceSub, Nat.reduceLT, Nat.reduceLeDiff, Nat.reduceEqDiff]
  (refine hK _ _ ?_; (try clear hK); (try clear K))
  refine PW.go tab_ok [] fun K hK => ?_
  simp only [go_sem, ↓reduceIte, reduceCtorEq, Nat.reduceBEq, Nat.reduceAdd, Nat.reduceMul, Nat.reduceSub, Nat.reduceLT, Nat.reduceLeDiff, Nat.reduceEqDiff]
  refine (indexByteString_pc s c).use (Weaks.refl _) rfl rfl ?_
  refine PO.go tab_ok [] ?_
  simp only [go_sem, ↓reduceIte, reduceCtorEq, Nat.reduceBEq, Nat.reduceAdd, Nat.reduceMul, Nat.reduceSub, Nat.reduceLT, Nat.reduceLeDiff, Nat.reduceEqDiff]
  (refine hK _ _ ?_; (try clear hK); (try clear K))
  exact PW.ret (Pure.ret rfl rfl rfl)
theorem indexByte_pc (s : Str) (c : UInt8) : Pure Try.prog 54 [.str s, bPV c] (.int .i64 (Lib.indexByte s c)) := by
  refine PC.intro tab_ok Try.func54 rfl (by kernel_rfl) Try.ntmps54 (Nat.le_of_ble_eq_true rfl) (rs := _) (congrArg Array.toList Try.results54) ?_
  refine PW.go tab_ok [] fun K hK => ?_
  simp only [go_sem, ↓reduceIte, reduceCtorEq, Nat.reduceBEq, Nat.reduceAdd, Nat.reduceMul, Nat.reduceSub, Nat.reduceLT, Nat.reduceLeDiff, Nat.reduceEqDiff]
  (refine hK _ _ ?_; (try clear hK); (try clear K))
  refine PW.go tab_ok [] fun K hK => ?_
  simp only [go_sem, ↓reduceIte, reduceCtorEq, Nat.reduceBEq, Nat.reduceAdd, Nat.reduceMul, Nat.reduceSub, Nat.reduceLT, Nat.reduceLeDiff, Nat.reduceEqDiff]
  refine (liteIndexByte_pc s c).use (Weaks.refl _) rfl rfl ?_
  refine PO.go tab_ok [] ?_
  simp only [go_sem, ↓reduceIte, reduceCtorEq, Nat.reduceBEq, Nat.reduceAdd, Nat.reduceMul, Nat.reduceSub, Nat.reduceLT, Nat.reduceLeDiff, Nat.reduceEqDiff]
  (refine hK _ _ ?_; (try clear hK); (try clear K))
  exact PW.ret (Pure.ret rfl rfl rfl)
end Go.Proofs.Ytolhbjfaahcekaa
end
section
/- The lexer: a token. -/
set_option linter.unusedVariables false
set_option linter.unusedSimpArgs false
namespace Go.Proofs.Ytolhbjfaahcekaa
open Go

/-- A token, its bytes, what is wrong with it. -/
structure Tk3 where
  t : Tok
  n : Nat
  e : Int
def tk3PV (x : Tk3) : PV := .tup [tokPV x.t, .int .i64 (x.n : Int), .int .i64 x.e]
/-- A text behind its first quote: what is read so far, where it goes on. -/
def quoteF : Nat → Str → Str → Nat → Tk3
  | 0, _, _, _ => ⟨tok0, 0, 3⟩
  | m + 1, rest, out, at_ =>
    if Lib.indexByte rest 39 < 0 then ⟨tok0, 0, 3⟩
    else
      let k := (Lib.indexByte rest 39).toNat
      if prefB (rest.drop (k + 1)) [39] then quoteF m (rest.drop (k + 2)) (out ++ rest.take k ++ [39]) (at_ + k + 2)
      else if ((out ++ rest.take k).length : Int) > 40 then ⟨tok0, 0, 2⟩ else ⟨⟨4, out ++ rest.take k, 0, 0⟩, at_ + k + 1, 0⟩
def quotedM (s : Str) : Tk3 := quoteF s.length (s.drop 1) [] 1
def signF : List Str → Str → Tk3
  | [], _ => ⟨tok0, 0, 4⟩
  | x :: xs, s => if prefB s x then ⟨⟨5, x, 0, 0⟩, x.length, 0⟩ else signF xs s
def plain3 (s : Str) (n : Nat) : Tk3 := ⟨(plainM s n).1, n, (plainM s n).2⟩
def tokenM (s : Str) : Tk3 := match s with
  | [] => ⟨tok0, 0, 4⟩
  | c :: r => if (c.toNat : Int) == 39 then quotedM (c :: r) else if firstB c then plain3 (c :: r) (rowN smallB (c :: r))
    else if greatB c then plain3 (c :: r) (rowN greatB (c :: r)) else if digitB c then plain3 (c :: r) (rowN digitB (c :: r)) else signF signsL (c :: r)
theorem token_pc {c : UInt8} {r : Str} (hl : (c :: r).length ≤ 1000000) (hq : Pure Try.prog 32 [.str (c :: r)] (tk3PV (quotedM (c :: r)))) :
    Pure Try.prog 17 [.str (c :: r)] (tk3PV (tokenM (c :: r))) := by
  have hplain : ∀ n, n ≤ (c :: r).length → Pure Try.prog 38 [.str (c :: r), .int .i64 (n : Int)] (.tup [tokPV (plainM (c :: r) n).1, .int .i64 (plainM (c :: r) n).2]) := fun n hn => plain_pc hn hl
  have hget0 : (c :: r)[0]? = some c := rfl
  have htok : tokenM (c :: r) = if (c.toNat : Int) == 39 then quotedM (c :: r) else if firstB c then plain3 (c :: r) (rowN smallB (c :: r))
    else if greatB c then plain3 (c :: r) (rowN greatB (c :: r)) else if digitB c then plain3 (c :: r) (rowN digitB (c :: r)) else signF signsL (c :: r) := rfl
  generalize c :: r = s at hl hq hplain hget0 htok
  refine PC.intro tab_ok Try.func17 rfl (by kernel_rfl) Try.ntmps17 (Nat.le_of_ble_eq_true rfl) (rs := _) (congrArg Array.toList Try.results17) ?_
  refine PW.go tab_ok [] fun K hK => ?_
  simp only [go_sem, ↓reduceIte, reduceCtorEq, Nat.reduceBEq, Nat.reduceAdd, Nat.reduceMul, Nat.reduceSub, Nat.reduceLT, Nat.reduceLeDiff, Nat.reduceEqDiff]
  (refine hK _ _ ?_; (try clear hK); (try clear K))
  refine PW.go tab_ok [] fun K hK => ?_
  simp only [go_sem, ↓reduceIte, reduceCtorEq, Nat.reduceBEq, Nat.reduceAdd, Nat.reduceMul, Nat.reduceSub, Nat.reduceLT, Nat.reduceLeDiff, Nat.reduceEqDiff]
  (refine hK _ _ ?_; (try clear hK); (try clear K))
  refine PW.seq_k fun K0 hK0 => ?_
  refine PW.go tab_ok [] fun K hK => ?_
  simp only [hget0, Int.le_refl, go_sem, ↓reduceIte, reduceCtorEq, Nat.reduceBEq, Nat.reduceAdd, Nat.reduceMul, Nat.reduceSub, Nat.reduceLT, Nat.reduceLeDiff, Nat.reduceEqDiff]
  (refine hK _ _ ?_; (try clear hK); (try clear K))
  have hlast : ∀ {env : Env} {st : St} (n : Nat), n ≤ s.length → Sub env [(5, .int .i64 (n : Int)), (2, .ref 0 0), (0, .str s)] → st = ⟨[[.int .i64 0, .str [], .int .i64 0, .int .i64 0]], []⟩ → tokenM s = plain3 s n → K0 env st := by
    rintro env st n hn hsub rfl he
    refine hK0 _ _ (PW.less _ hsub ?_)
    refine PW.go tab_ok [] fun K hK => ?_
    simp only [go_sem, ↓reduceIte, reduceCtorEq, Nat.reduceBEq, Nat.reduceAdd, Nat.reduceMul, Nat.reduceSub, Nat.reduceLT, Nat.reduceLeDiff, Nat.reduceEqDiff]
    refine (hplain n hn).use (Weaks.refl _) rfl rfl ?_
    refine PO.go tab_ok [] ?_
    simp only [tokPV, go_sem, ↓reduceIte, reduceCtorEq, Nat.reduceBEq, Nat.reduceAdd, Nat.reduceMul, Nat.reduceSub, Nat.reduceLT, Nat.reduceLeDiff, Nat.reduceEqDiff]
    (refine hK _ _ ?_; (try clear hK); (try clear K))
    refine PW.go tab_ok [] fun K hK => ?_
    simp only [go_sem, ↓reduceIte, reduceCtorEq, Nat.reduceBEq, Nat.reduceAdd, Nat.reduceMul, Nat.reduceSub, Nat.reduceLT, Nat.reduceLeDiff, Nat.reduceEqDiff]
    (refine hK _ _ ?_; (try clear hK); (try clear K))
    exact PW.ret (Pure.ret rfl (by rw [he]; rfl) rfl)
  refine PW.block ?_
  refine PW.go tab_ok [] fun K hK => ?_
  simp only [go_sem, ↓reduceIte, reduceCtorEq, Nat.reduceBEq, Nat.reduceAdd, Nat.reduceMul, Nat.reduceSub, Nat.reduceLT, Nat.reduceLeDiff, Nat.reduceEqDiff]
  (refine hK _ _ ?_; (try clear hK); (try clear K))
  refine PW.cond_split (b := (c.toNat : Int) == 39) rfl ?_ ?_ <;> intro hb1
  · refine PW.go tab_ok [] fun K hK => ?_
    simp only [go_sem, ↓reduceIte, reduceCtorEq, Nat.reduceBEq, Nat.reduceAdd, Nat.reduceMul, Nat.reduceSub, Nat.reduceLT, Nat.reduceLeDiff, Nat.reduceEqDiff]
    refine hq.use (Weaks.refl _) rfl rfl ?_
    refine PO.go tab_ok [] ?_
    simp only [tk3PV, tokPV, go_sem, ↓reduceIte, reduceCtorEq, Nat.reduceBEq, Nat.reduceAdd, Nat.reduceMul, Nat.reduceSub, Nat.reduceLT, Nat.reduceLeDiff, Nat.reduceEqDiff]
    (refine hK _ _ ?_; (try clear hK); (try clear K))
    exact PW.ret (Pure.ret rfl (by rw [htok, hb1]; rfl) rfl)
  refine PW.go tab_ok [] fun K hK => ?_
  simp only [go_sem, ↓reduceIte, reduceCtorEq, Nat.reduceBEq, Nat.reduceAdd, Nat.reduceMul, Nat.reduceSub, Nat.reduceLT, Nat.reduceLeDiff, Nat.reduceEqDiff]
  refine (first_pc c).use (Weaks.refl _) rfl rfl ?_
  refine PO.go tab_ok [] ?_
  simp only [go_sem, ↓reduceIte, reduceCtorEq, Nat.reduceBEq, Nat.reduceAdd, Nat.reduceMul, Nat.reduceSub, Nat.reduceLT, Nat.reduceLeDiff, Nat.reduceEqDiff]
  (refine hK _ _ ?_; (try clear hK); (try clear K))
  refine PW.cond_split (b := firstB c) rfl ?_ ?_ <;> intro hb2
  · refine PW.goL tab_ok [] fun K hK => ?_
    simp only [go_sem, ↓reduceIte, reduceCtorEq, Nat.reduceBEq, Nat.reduceAdd, Nat.reduceMul, Nat.reduceSub, Nat.reduceLT, Nat.reduceLeDiff, Nat.reduceEqDiff]
    refine (lexrow_pc small_pc (s := s) (by omega)).use (Weaks.refl _) rfl rfl ?_
    refine PO.go tab_ok [] ?_
    simp only [go_sem, ↓reduceIte, reduceCtorEq, Nat.reduceBEq, Nat.reduceAdd, Nat.reduceMul, Nat.reduceSub, Nat.reduceLT, Nat.reduceLeDiff, Nat.reduceEqDiff]
    (refine hK _ _ ?_; (try clear hK); (try clear K))
    exact hlast _ (rowN_le smallB s) (by simp [Sub, eget]) rfl (by rw [htok, hb1, hb2]; rfl)
  refine PW.go tab_ok [] fun K hK => ?_
  simp only [go_sem, ↓reduceIte, reduceCtorEq, Nat.reduceBEq, Nat.reduceAdd, Nat.reduceMul, Nat.reduceSub, Nat.reduceLT, Nat.reduceLeDiff, Nat.reduceEqDiff]
  refine (great_pc c).use (Weaks.refl _) rfl rfl ?_
  refine PO.go tab_ok [] ?_
  simp only [go_sem, ↓reduceIte, reduceCtorEq, Nat.reduceBEq, Nat.reduceAdd, Nat.reduceMul, Nat.reduceSub, Nat.reduceLT, Nat.reduceLeDiff, Nat.reduceEqDiff]
  (refine hK _ _ ?_; (try clear hK); (try clear K))
  refine PW.cond_split (b := greatB c) rfl ?_ ?_ <;> intro hb3
  · refine PW.goL tab_ok [] fun K hK => ?_
    simp only [go_sem, ↓reduceIte, reduceCtorEq, Nat.reduceBEq, Nat.reduceAdd, Nat.reduceMul, Nat.reduceSub, Nat.reduceLT, Nat.reduceLeDiff, Nat.reduceEqDiff]
    refine (lexrow_pc great_pc (s := s) (by omega)).use (Weaks.refl _) rfl rfl ?_
    refine PO.go tab_ok [] ?_
    simp only [go_sem, ↓reduceIte, reduceCtorEq, Nat.reduceBEq, Nat.reduceAdd, Nat.reduceMul, Nat.reduceSub, Nat.reduceLT, Nat.reduceLeDiff, Nat.reduceEqDiff]
    (refine hK _ _ ?_; (try clear hK); (try clear K))
    exact hlast _ (rowN_le greatB s) (by simp [Sub, eget]) rfl (by rw [htok, hb1, hb2, hb3]; rfl)
  refine PW.go tab_ok [] fun K hK => ?_
  simp only [go_sem, ↓reduceIte, reduceCtorEq, Nat.reduceBEq, Nat.reduceAdd, Nat.reduceMul, Nat.reduceSub, Nat.reduceLT, Nat.reduceLeDiff, Nat.reduceEqDiff]
  refine (digit_pc c).use (Weaks.refl _) rfl rfl ?_
  refine PO.go tab_ok [] ?_
  simp only [go_sem, ↓reduceIte, reduceCtorEq, Nat.reduceBEq, Nat.reduceAdd, Nat.reduceMul, Nat.reduceSub, Nat.reduceLT, Nat.reduceLeDiff, Nat.reduceEqDiff]
  (refine hK _ _ ?_; (try clear hK); (try clear K))
  refine PW.cond_split (b := digitB c) rfl ?_ ?_ <;> intro hb4
  · refine PW.goL tab_ok [] fun K hK => ?_
    simp only [go_sem, ↓reduceIte, reduceCtorEq, Nat.reduceBEq, Nat.reduceAdd, Nat.reduceMul, Nat.reduceSub, Nat.reduceLT, Nat.reduceLeDiff, Nat.reduceEqDiff]
    refine (lexrow_pc digit_pc (s := s) (by omega)).use (Weaks.refl _) rfl rfl ?_
    refine PO.go tab_ok [] ?_
    simp only [go_sem, ↓reduceIte, reduceCtorEq, Nat.reduceBEq, Nat.reduceAdd, Nat.reduceMul, Nat.reduceSub, Nat.reduceLT, Nat.reduceLeDiff, Nat.reduceEqDiff]
    (refine hK _ _ ?_; (try clear hK); (try clear K))
    exact hlast _ (rowN_le digitB s) (by simp [Sub, eget]) rfl (by rw [htok, hb1, hb2, hb3, hb4]; rfl)
  have hts : tokenM s = signF signsL s := by rw [htok, hb1, hb2, hb3, hb4]; rfl
  refine PW.seq_k fun K5 hK5 => ?_
  refine PW.go tab_ok [] fun K hK => ?_
  simp only [go_sem, ↓reduceIte, reduceCtorEq, Nat.reduceBEq, Nat.reduceAdd, Nat.reduceMul, Nat.reduceSub, Nat.reduceLT, Nat.reduceLeDiff, Nat.reduceEqDiff]
  refine signs_pc.use (Weaks.refl _) rfl rfl ?_
  refine PO.go tab_ok [] ?_
  have hsl : (strs signsL).length = 16 := rfl
  simp only [hsl, go_sem, ↓reduceIte, reduceCtorEq, Nat.reduceBEq, Nat.reduceAdd, Nat.reduceMul, Nat.reduceSub, Nat.reduceLT, Nat.reduceLeDiff, Nat.reduceEqDiff]
  (refine hK _ _ ?_; (try clear hK); (try clear K))
  refine PW.block (PW.loop (α := Nat) (fun k => [(15, .int .i64 (k : Int)), (14, .int .i64 (16 : Int)), (13, .list 1 (strs signsL) .no), (2, .ref 0 0), (0, .str s)]) (fun _ => ⟨[[.int .i64 0, .str [], .int .i64 0, .int .i64 0]], []⟩)
    (fun k => k ≤ 16 ∧ signF (signsL.drop k) s = signF signsL s) (fun k => 16 - k) 0 ⟨Nat.zero_le _, rfl⟩ ?_ rfl (fun _ _ => ⟨rfl, rfl⟩) ?_)
  · simp [Sub, eget]
  rintro k ⟨hk, he⟩
  refine PW.go tab_ok [] fun K hK => ?_
  simp only [go_sem, ↓reduceIte, reduceCtorEq, Nat.reduceBEq, Nat.reduceAdd, Nat.reduceMul, Nat.reduceSub, Nat.reduceLT, Nat.reduceLeDiff, Nat.reduceEqDiff]
  (refine hK _ _ ?_; (try clear hK); (try clear K))
  refine PW.seq_k fun K2 hK2 => ?_
  refine PW.cond_split (b := decide ((k : Int) < 16)) rfl ?_ ?_ <;> intro hb
  · have hlt : k < signsL.length := by
      have : (k : Int) < 16 := by simpa using hb
      show k < 16
      omega
    have hlt' : k < 16 := hlt
    have h0 : (0 : Int) ≤ (k : Int) := by omega
    have hget : (strs signsL)[((k : Int)).toNat]? = some (.str signsL[k]) := by rw [Int.toNat_natCast, strs, List.getElem?_map, List.getElem?_eq_getElem hlt]; rfl
    have hdr : signsL.drop k = signsL[k] :: signsL.drop (k + 1) := List.drop_eq_getElem_cons hlt
    refine PW.skip (hK2 _ _ ?_)
    clear hK2 K2
    refine PW.seq_k fun K3 hK3 => PW.block ?_
    generalize signsL[k] = x at hget hdr
    rw [hdr] at he
    refine PW.go tab_ok [] fun K hK => ?_
    simp only [h0, hget, go_sem, ↓reduceIte, reduceCtorEq, Nat.reduceBEq, Nat.reduceAdd, Nat.reduceMul, Nat.reduceSub, Nat.reduceLT, Nat.reduceLeDiff, Nat.reduceEqDiff]
    (refine hK _ _ ?_; (try clear hK); (try clear K))
    refine PW.go tab_ok [] fun K hK => ?_
    simp only [go_sem, ↓reduceIte, reduceCtorEq, Nat.reduceBEq, Nat.reduceAdd, Nat.reduceMul, Nat.reduceSub, Nat.reduceLT, Nat.reduceLeDiff, Nat.reduceEqDiff]
    refine (hasPrefix_pc s x).use (Weaks.refl _) rfl rfl ?_
    refine PO.go tab_ok [] ?_
    simp only [go_sem, ↓reduceIte, reduceCtorEq, Nat.reduceBEq, Nat.reduceAdd, Nat.reduceMul, Nat.reduceSub, Nat.reduceLT, Nat.reduceLeDiff, Nat.reduceEqDiff]
    (refine hK _ _ ?_; (try clear hK); (try clear K))
    refine PW.cond_split (b := prefB s x) rfl ?_ ?_ <;> intro hb5
    · refine PW.go tab_ok [] fun K hK => ?_
      simp only [go_sem, ↓reduceIte, reduceCtorEq, Nat.reduceBEq, Nat.reduceAdd, Nat.reduceMul, Nat.reduceSub, Nat.reduceLT, Nat.reduceLeDiff, Nat.reduceEqDiff]
      (refine hK _ _ ?_; (try clear hK); (try clear K))
      refine PW.ret (Pure.ret rfl ?_ rfl)
      rw [hts, ← he]
      simp only [signF, hb5, if_true]
      rfl
    · refine PW.skip (hK3 _ _ ?_)
      have hw : IntKind.i64.wrap ((k : Int) + 1) = ((k + 1 : Nat) : Int) := by
        rw [show (k : Int) + 1 = ((k + 1 : Nat) : Int) from by omega]
        exact wrap_nat (by omega)
      refine PW.goL tab_ok [] fun K hK => ?_
      simp only [go_sem, ↓reduceIte, reduceCtorEq, Nat.reduceBEq, Nat.reduceAdd, Nat.reduceMul, Nat.reduceSub, Nat.reduceLT, Nat.reduceLeDiff, Nat.reduceEqDiff]
      (refine hK _ _ ?_; (try clear hK); (try clear K))
      refine ⟨k + 1, ⟨by omega, ?_⟩, by omega, by simp [Sub, eget, hw], ?_, by simp [Env.clean, PV.clean, PVs.clean_data (strs_clean signsL)]⟩
      · rw [← he]
        simp [signF, hb5]
      · exact ⟨by simp [Weaks.refl, PV.isCell], rfl, by simp [PVs.clean, PV.clean]⟩
  · have hge : k = 16 := by
      have : ¬ (k : Int) < 16 := by simpa using hb
      omega
    subst hge
    have hnone : tokenM s = ⟨tok0, 0, 4⟩ := by rw [hts, ← he]; rfl
    refine PW.exit (hK5 _ _ ?_)
    refine PW.go tab_ok [] fun K hK => ?_
    simp only [go_sem, ↓reduceIte, reduceCtorEq, Nat.reduceBEq, Nat.reduceAdd, Nat.reduceMul, Nat.reduceSub, Nat.reduceLT, Nat.reduceLeDiff, Nat.reduceEqDiff]
    (refine hK _ _ ?_; (try clear hK); (try clear K))
    exact PW.ret (Pure.ret rfl (by rw [hnone]; rfl) rfl)
end Go.Proofs.Ytolhbjfaahcekaa
end
section
/- The parser's reader: passing. -/
set_option linter.unusedVariables false
set_option linter.unusedSimpArgs false
namespace Go.Proofs.Ytolhbjfaahcekaa
open Go

theorem tail_eq (t : Tok) (ts : List Tok) (d c a : Int) : rPV (R.tail ⟨t :: ts, d, c, a⟩) = rdPV ts d c a := rfl
theorem strs_clean1 (ls : List Str) : PVs.clean 0 0 [.list 1 (strs ls) .no] = true := by simp [PVs.clean, PV.clean, strs_clean]

theorem pass_pc {ls : List Str} (hl : ls.length ≤ 4611686018427387903) {r : R} (h : r.ok) : OneM Try.prog 22 [.list 1 (strs ls) .no] r (.int .i64 (passM ls r).1) (passM ls r).2 := by
  have h1 : (1 : Int) ≤ (r.ts.length : Int) := by
    obtain ⟨t, ts, h1, _⟩ := h.cons
    rw [h1]
    simp
    omega
  have h1' : r.ts.length = (r.ts.map tokPV).length := by simp
  refine PC.intro tab_ok Try.func22 rfl (by kernel_rfl) Try.ntmps22 (Nat.le_of_ble_eq_true rfl) (rs := _) (congrArg Array.toList Try.results22) ?_
  refine PW.go tab_ok [] fun K hK => ?_
  simp only [go_sem, ↓reduceIte, reduceCtorEq, Nat.reduceBEq, Nat.reduceAdd, Nat.reduceMul, Nat.reduceSub, Nat.reduceLT, Nat.reduceLeDiff, Nat.reduceEqDiff]
  (refine hK _ _ ?_; (try clear hK); (try clear K))
  refine PW.go tab_ok [] fun K hK => ?_
  simp only [go_sem, ↓reduceIte, reduceCtorEq, Nat.reduceBEq, Nat.reduceAdd, Nat.reduceMul, Nat.reduceSub, Nat.reduceLT, Nat.reduceLeDiff, Nat.reduceEqDiff]
  refine (is_pc hl h).use 0 rfl (Weaks.refl _) (strs_clean1 ls) ?_
  refine PO.go tab_ok [] ?_
  simp only [go_sem, ↓reduceIte, reduceCtorEq, Nat.reduceBEq, Nat.reduceAdd, Nat.reduceMul, Nat.reduceSub, Nat.reduceLT, Nat.reduceLeDiff, Nat.reduceEqDiff]
  (refine hK _ _ ?_; (try clear hK); (try clear K))
  refine PW.seq_k fun K0 hK0 => ?_
  refine PW.go tab_ok [] fun K hK => ?_
  simp only [go_sem, ↓reduceIte, reduceCtorEq, Nat.reduceBEq, Nat.reduceAdd, Nat.reduceMul, Nat.reduceSub, Nat.reduceLT, Nat.reduceLeDiff, Nat.reduceEqDiff]
  (refine hK _ _ ?_; (try clear hK); (try clear K))
  refine PW.cond_split (b := decide (isM ls r ≥ 0)) rfl ?_ ?_ <;> intro hb
  · have hp : 0 ≤ isM ls r := by simpa using hb
    refine PW.goL tab_ok [] fun K hK => ?_
    have hsl : (0 : Int) ≤ 1 ∧ (1 : Int) ≤ (r.ts.length : Int) := ⟨by omega, h1⟩
    simp only [rPV, rdPV, hsl, go_sem, ↓reduceIte, reduceCtorEq, Nat.reduceBEq, Nat.reduceAdd, Nat.reduceMul, Nat.reduceSub, Nat.reduceLT, Nat.reduceLeDiff, Nat.reduceEqDiff]
    (refine hK _ _ ?_; (try clear hK); (try clear K))
    refine hK0 _ _ ?_
    refine PW.go tab_ok [] fun K hK => ?_
    simp only [go_sem, ↓reduceIte, reduceCtorEq, Nat.reduceBEq, Nat.reduceAdd, Nat.reduceMul, Nat.reduceSub, Nat.reduceLT, Nat.reduceLeDiff, Nat.reduceEqDiff]
    (refine hK _ _ ?_; (try clear hK); (try clear K))
    refine PW.ret (OneM.fin (.inl rfl) rfl ?_ ?_ rfl)
    · simp [passM, hp, R.tail, rPV, rdPV, List.map_drop]
    · simp [passM, resPV]
  · have hp : ¬ 0 ≤ isM ls r := by simpa using hb
    refine PW.skip (hK0 _ _ ?_)
    refine PW.go tab_ok [] fun K hK => ?_
    simp only [go_sem, ↓reduceIte, reduceCtorEq, Nat.reduceBEq, Nat.reduceAdd, Nat.reduceMul, Nat.reduceSub, Nat.reduceLT, Nat.reduceLeDiff, Nat.reduceEqDiff]
    (refine hK _ _ ?_; (try clear hK); (try clear K))
    refine PW.ret (OneM.fin (.inl rfl) rfl ?_ ?_ rfl)
    · simp [passM, hp]
    · simp [passM, resPV]
theorem has_pc {s : Str} {r : R} (h : r.ok) : OneM Try.prog 13 [.str s] r (.bool (hasM s r).1) (hasM s r).2 := by
  refine PC.intro tab_ok Try.func13 rfl (by kernel_rfl) Try.ntmps13 (Nat.le_of_ble_eq_true rfl) (rs := _) (congrArg Array.toList Try.results13) ?_
  refine PW.go tab_ok [] fun K hK => ?_
  simp only [go_sem, ↓reduceIte, reduceCtorEq, Nat.reduceBEq, Nat.reduceAdd, Nat.reduceMul, Nat.reduceSub, Nat.reduceLT, Nat.reduceLeDiff, Nat.reduceEqDiff]
  (refine hK _ _ ?_; (try clear hK); (try clear K))
  refine PW.go tab_ok [] fun K hK => ?_
  simp only [go_sem, ↓reduceIte, reduceCtorEq, Nat.reduceBEq, Nat.reduceAdd, Nat.reduceMul, Nat.reduceSub, Nat.reduceLT, Nat.reduceLeDiff, Nat.reduceEqDiff]
  refine (pass_pc (ls := [s]) (by simp) h).use 0 rfl (Weaks.refl _) (strs_clean1 [s]) ?_
  refine PO.go tab_ok [] ?_
  simp only [go_sem, ↓reduceIte, reduceCtorEq, Nat.reduceBEq, Nat.reduceAdd, Nat.reduceMul, Nat.reduceSub, Nat.reduceLT, Nat.reduceLeDiff, Nat.reduceEqDiff]
  (refine hK _ _ ?_; (try clear hK); (try clear K))
  exact PW.ret (OneM.fin (.inl rfl) rfl rfl (.refl _) rfl)
theorem mustM_snoc : ∀ (l : List Str) (x : Str) (r : R), mustM (l ++ [x]) r = if (hasM x (mustM l r)).1 then (hasM x (mustM l r)).2 else failM 4 (hasM x (mustM l r)).2
  | [], x, r => rfl
  | y :: l, x, r => by
    simp only [List.cons_append, mustM]
    exact mustM_snoc l x _
theorem must_pc {ls : List Str} (hl : ls.length ≤ 4611686018427387903) {r : R} (h : r.ok) : OneM Try.prog 41 [.list 1 (strs ls) .no] r (.tup []) (mustM ls r) := by
  have hsl : (strs ls).length = ls.length := by simp [strs]
  refine PC.intro tab_ok Try.func41 rfl (by kernel_rfl) Try.ntmps41 (Nat.le_of_ble_eq_true rfl) (rs := _) (congrArg Array.toList Try.results41) ?_
  refine PW.go tab_ok [] fun K hK => ?_
  simp only [hsl, go_sem, ↓reduceIte, reduceCtorEq, Nat.reduceBEq, Nat.reduceAdd, Nat.reduceMul, Nat.reduceSub, Nat.reduceLT, Nat.reduceLeDiff, Nat.reduceEqDiff]
  (refine hK _ _ ?_; (try clear hK); (try clear K))
  refine PW.block (PW.loop (α := Nat) (fun k => [(8, .int .i64 (k : Int)), (7, .int .i64 (ls.length : Int)), (6, .list 1 (strs ls) .no), (0, .ref 0 0)]) (fun k => ⟨[rPV (mustM (ls.take k) r)], []⟩)
    (fun k => k ≤ ls.length) (fun k => ls.length - k) 0 (Nat.zero_le _) ?_ rfl (fun _ _ => ⟨rfl, rfl⟩) ?_)
  · simp [Sub, eget]
  rintro k hk
  refine PW.go tab_ok [] fun K hK => ?_
  simp only [go_sem, ↓reduceIte, reduceCtorEq, Nat.reduceBEq, Nat.reduceAdd, Nat.reduceMul, Nat.reduceSub, Nat.reduceLT, Nat.reduceLeDiff, Nat.reduceEqDiff]
  (refine hK _ _ ?_; (try clear hK); (try clear K))
  refine PW.seq_k fun K2 hK2 => ?_
  refine PW.cond_split (b := decide ((k : Int) < (ls.length : Int))) rfl ?_ ?_ <;> intro hc
  · have hlt : k < ls.length := by simpa using hc
    refine PW.skip (hK2 _ _ ?_)
    clear hK2 K2
    refine PW.seq_k fun K3 hK3 => PW.block ?_
    have hget : (strs ls)[((k : Int)).toNat]? = some (.str ls[k]) := by simp [strs, hlt]
    have h0 : (0 : Int) ≤ (k : Int) := by omega
    refine PW.go tab_ok [] fun K hK => ?_
    simp only [hget, h0, go_sem, ↓reduceIte, reduceCtorEq, Nat.reduceBEq, Nat.reduceAdd, Nat.reduceMul, Nat.reduceSub, Nat.reduceLT, Nat.reduceLeDiff, Nat.reduceEqDiff]
    (refine hK _ _ ?_; (try clear hK); (try clear K))
    have hok : (mustM (ls.take k) r).ok := mustM_ok h
    have hnext : mustM (ls.take (k + 1)) r = if (hasM ls[k] (mustM (ls.take k) r)).1 then (hasM ls[k] (mustM (ls.take k) r)).2 else failM 4 (hasM ls[k] (mustM (ls.take k) r)).2 := by
      rw [← mustM_snoc, List.take_succ_eq_append_getElem hlt]
    have hw : IntKind.i64.wrap ((k : Int) + 1) = ((k + 1 : Nat) : Int) := by
      rw [show (k : Int) + 1 = ((k + 1 : Nat) : Int) from by omega]
      exact wrap_nat (by omega)
    refine PW.go tab_ok [] fun K hK => ?_
    simp only [go_sem, ↓reduceIte, reduceCtorEq, Nat.reduceBEq, Nat.reduceAdd, Nat.reduceMul, Nat.reduceSub, Nat.reduceLT, Nat.reduceLeDiff, Nat.reduceEqDiff]
    refine (has_pc hok).use 0 rfl (Weaks.refl _) rfl ?_
    refine PO.go tab_ok [] ?_
    simp only [go_sem, ↓reduceIte, reduceCtorEq, Nat.reduceBEq, Nat.reduceAdd, Nat.reduceMul, Nat.reduceSub, Nat.reduceLT, Nat.reduceLeDiff, Nat.reduceEqDiff]
    (refine hK _ _ ?_; (try clear hK); (try clear K))
    have hend : ∀ {env : Env} {st : St}, Sub env [(8, .int .i64 (k : Int)), (7, .int .i64 (ls.length : Int)), (6, .list 1 (strs ls) .no), (0, .ref 0 0)] → st = ⟨[rPV (mustM (ls.take (k + 1)) r)], []⟩ → K3 env st := by
      rintro env st hsub rfl
      refine hK3 _ _ (PW.less _ hsub ?_)
      refine PW.goL tab_ok [] fun K hK => ?_
      simp only [go_sem, ↓reduceIte, reduceCtorEq, Nat.reduceBEq, Nat.reduceAdd, Nat.reduceMul, Nat.reduceSub, Nat.reduceLT, Nat.reduceLeDiff, Nat.reduceEqDiff]
      (refine hK _ _ ?_; (try clear hK); (try clear K))
      exact ⟨k + 1, by omega, by omega, by simp [Sub, eget, hw], r_left _ _ _, by simp [Env.clean, PV.clean, PVs.clean_data (strs_clean ls)]⟩
    refine PW.cond_split (b := !(hasM ls[k] (mustM (ls.take k) r)).1) rfl ?_ ?_ <;> intro hc2
    · refine PW.goL tab_ok [] fun K hK => ?_
      simp only [go_sem, ↓reduceIte, reduceCtorEq, Nat.reduceBEq, Nat.reduceAdd, Nat.reduceMul, Nat.reduceSub, Nat.reduceLT, Nat.reduceLeDiff, Nat.reduceEqDiff]
      refine (fail_pc' (hasM_ok hok) 4).use 0 rfl (Weaks.refl _) rfl ?_
      refine PO.go tab_ok [] ?_
      simp only [go_sem, ↓reduceIte, reduceCtorEq, Nat.reduceBEq, Nat.reduceAdd, Nat.reduceMul, Nat.reduceSub, Nat.reduceLT, Nat.reduceLeDiff, Nat.reduceEqDiff]
      (refine hK _ _ ?_; (try clear hK); (try clear K))
      have hc2' : (hasM ls[k] (mustM (ls.take k) r)).1 = false := by simpa using hc2
      exact hend (by simp [Sub, eget]) (by rw [hnext, hc2']; rfl)
    · have hc2' : (hasM ls[k] (mustM (ls.take k) r)).1 = true := by simpa using hc2
      exact PW.skip (hend (by simp [Sub, eget]) (by rw [hnext, hc2']; rfl))
  · have hge : k = ls.length := by simp at hc; omega
    subst hge
    refine PW.exit (OneM.fin (.inr rfl) rfl ?_ (.refl _) rfl)
    rw [List.take_length]
end Go.Proofs.Ytolhbjfaahcekaa
end
section
/- The parser's reader: taking a token; trees. -/
set_option linter.unusedVariables false
set_option linter.unusedSimpArgs false
namespace Go.Proofs.Ytolhbjfaahcekaa
open Go

theorem take_pc {k : Int} {r : R} (h : r.ok) : OneM Try.prog 52 [.int .i64 k] r (tokPV (takeM k r).1) (takeM k r).2 := by
  have h0 := h
  obtain ⟨t, ts, h1, _⟩ := h.cons
  obtain ⟨_, d, c, a⟩ := r
  subst h1
  have hsl : (1 : Int) ≤ ((ts.length + 1 : Nat) : Int) := by omega
  have h01 : (0 : Int) ≤ 1 := by omega
  refine PC.intro tab_ok Try.func52 rfl (by kernel_rfl) Try.ntmps52 (Nat.le_of_ble_eq_true rfl) (rs := _) (congrArg Array.toList Try.results52) ?_
  refine PW.go tab_ok [] fun K hK => ?_
  simp only [go_sem, ↓reduceIte, reduceCtorEq, Nat.reduceBEq, Nat.reduceAdd, Nat.reduceMul, Nat.reduceSub, Nat.reduceLT, Nat.reduceLeDiff, Nat.reduceEqDiff]
  (refine hK _ _ ?_; (try clear hK); (try clear K))
  refine PW.seq_k fun K0 hK0 => ?_
  refine PW.go tab_ok [] fun K hK => ?_
  simp only [go_sem, ↓reduceIte, reduceCtorEq, Nat.reduceBEq, Nat.reduceAdd, Nat.reduceMul, Nat.reduceSub, Nat.reduceLT, Nat.reduceLeDiff, Nat.reduceEqDiff]
  refine (fine_pc (t :: ts) d c a).use 0 rfl .nil rfl (rd_clean _ _ _ _) ?_
  rintro _ _ ⟨rfl, rfl⟩ _ _
  refine PO.go tab_ok [] ?_
  by_cases hc : c = 0
  · subst hc
    have hc' : ((0 : Int) == 0) = true := rfl
    simp only [hc', go_sem, ↓reduceIte, reduceCtorEq, Nat.reduceBEq, Nat.reduceAdd, Nat.reduceMul, Nat.reduceSub, Nat.reduceLT, Nat.reduceLeDiff, Nat.reduceEqDiff]
    refine (next_pc t ts d 0 a).use 0 rfl .nil rfl (rd_clean _ _ _ _) ?_
    rintro _ _ ⟨rfl, rfl⟩ _ _
    refine PO.go tab_ok [] ?_
    by_cases hk : t.kind = k
    · have hk' : (t.kind != k) = false := by simp [hk]
      simp only [tokPV, hk', go_sem, ↓reduceIte, reduceCtorEq, Nat.reduceBEq, Nat.reduceAdd, Nat.reduceMul, Nat.reduceSub, Nat.reduceLT, Nat.reduceLeDiff, Nat.reduceEqDiff]
      (refine hK _ _ ?_; (try clear hK); (try clear K))
      refine PW.cond_split (b := false) rfl ?_ ?_ <;> intro hb
      · cases hb
      refine PW.skip (hK0 _ _ ?_)
      refine PW.go tab_ok [] fun K hK => ?_
      simp only [go_sem, ↓reduceIte, reduceCtorEq, Nat.reduceBEq, Nat.reduceAdd, Nat.reduceMul, Nat.reduceSub, Nat.reduceLT, Nat.reduceLeDiff, Nat.reduceEqDiff]
      refine (next_pc t ts d 0 a).use 0 rfl .nil rfl (rd_clean _ _ _ _) ?_
      rintro _ _ ⟨rfl, rfl⟩ _ _
      refine PO.go tab_ok [] ?_
      simp only [tokPV, go_sem, ↓reduceIte, reduceCtorEq, Nat.reduceBEq, Nat.reduceAdd, Nat.reduceMul, Nat.reduceSub, Nat.reduceLT, Nat.reduceLeDiff, Nat.reduceEqDiff]
      (refine hK _ _ ?_; (try clear hK); (try clear K))
      refine PW.go tab_ok [] fun K hK => ?_
      simp only [rdPV, hsl, h01, go_sem, ↓reduceIte, reduceCtorEq, Nat.reduceBEq, Nat.reduceAdd, Nat.reduceMul, Nat.reduceSub, Nat.reduceLT, Nat.reduceLeDiff, Nat.reduceEqDiff]
      (refine hK _ _ ?_; (try clear hK); (try clear K))
      refine PW.go tab_ok [] fun K hK => ?_
      simp only [go_sem, ↓reduceIte, reduceCtorEq, Nat.reduceBEq, Nat.reduceAdd, Nat.reduceMul, Nat.reduceSub, Nat.reduceLT, Nat.reduceLeDiff, Nat.reduceEqDiff]
      (refine hK _ _ ?_; (try clear hK); (try clear K))
      refine PW.ret (OneM.fin (.inl rfl) rfl ?_ ?_ rfl)
      · simp [takeM, hd, hk, R.tail, rPV, rdPV]
      · simp [takeM, hd, hk, resPV, tokPV]
    · have hk' : (t.kind != k) = true := by simp [hk]
      simp only [tokPV, hk', go_sem, ↓reduceIte, reduceCtorEq, Nat.reduceBEq, Nat.reduceAdd, Nat.reduceMul, Nat.reduceSub, Nat.reduceLT, Nat.reduceLeDiff, Nat.reduceEqDiff]
      (refine hK _ _ ?_; (try clear hK); (try clear K))
      refine PW.cond_split (b := true) rfl ?_ ?_ <;> intro hb
      · refine PW.go tab_ok [] fun K hK => ?_
        simp only [go_sem, ↓reduceIte, reduceCtorEq, Nat.reduceBEq, Nat.reduceAdd, Nat.reduceMul, Nat.reduceSub, Nat.reduceLT, Nat.reduceLeDiff, Nat.reduceEqDiff]
        refine (fail_pc' h0 4).use 0 rfl (Weaks.refl _) rfl ?_
        refine PO.go tab_ok [] ?_
        simp only [go_sem, ↓reduceIte, reduceCtorEq, Nat.reduceBEq, Nat.reduceAdd, Nat.reduceMul, Nat.reduceSub, Nat.reduceLT, Nat.reduceLeDiff, Nat.reduceEqDiff]
        (refine hK _ _ ?_; (try clear hK); (try clear K))
        refine PW.go tab_ok [] fun K hK => ?_
        simp only [go_sem, ↓reduceIte, reduceCtorEq, Nat.reduceBEq, Nat.reduceAdd, Nat.reduceMul, Nat.reduceSub, Nat.reduceLT, Nat.reduceLeDiff, Nat.reduceEqDiff]
        (refine hK _ _ ?_; (try clear hK); (try clear K))
        refine PW.ret (OneM.fin (.inl rfl) rfl ?_ ?_ rfl)
        · simp [takeM, hd, hk, rPV, rdPV, failM]
        · simp [takeM, hd, hk, resPV, tokPV, tok0]
      · cases hb
  · have hc' : (c == 0) = false := by simp [hc]
    simp only [hc', go_sem, ↓reduceIte, reduceCtorEq, Nat.reduceBEq, Nat.reduceAdd, Nat.reduceMul, Nat.reduceSub, Nat.reduceLT, Nat.reduceLeDiff, Nat.reduceEqDiff]
    (refine hK _ _ ?_; (try clear hK); (try clear K))
    refine PW.cond_split (b := true) rfl ?_ ?_ <;> intro hb
    · refine PW.go tab_ok [] fun K hK => ?_
      simp only [go_sem, ↓reduceIte, reduceCtorEq, Nat.reduceBEq, Nat.reduceAdd, Nat.reduceMul, Nat.reduceSub, Nat.reduceLT, Nat.reduceLeDiff, Nat.reduceEqDiff]
      refine (fail_pc' h0 4).use 0 rfl (Weaks.refl _) rfl ?_
      refine PO.go tab_ok [] ?_
      simp only [go_sem, ↓reduceIte, reduceCtorEq, Nat.reduceBEq, Nat.reduceAdd, Nat.reduceMul, Nat.reduceSub, Nat.reduceLT, Nat.reduceLeDiff, Nat.reduceEqDiff]
      (refine hK _ _ ?_; (try clear hK); (try clear K))
      refine PW.go tab_ok [] fun K hK => ?_
      simp only [go_sem, ↓reduceIte, reduceCtorEq, Nat.reduceBEq, Nat.reduceAdd, Nat.reduceMul, Nat.reduceSub, Nat.reduceLT, Nat.reduceLeDiff, Nat.reduceEqDiff]
      (refine hK _ _ ?_; (try clear hK); (try clear K))
      refine PW.ret (OneM.fin (.inl rfl) rfl ?_ ?_ rfl)
      · simp [takeM, hd, hc, rPV, rdPV, failM]
      · simp [takeM, hd, hc, resPV, tokPV, tok0]
    · cases hb
theorem name_pc {r : R} (h : r.ok) : OneM Try.prog 42 [] r (.str (nameM r).1) (nameM r).2 := by
  refine PC.intro tab_ok Try.func42 rfl (by kernel_rfl) Try.ntmps42 (Nat.le_of_ble_eq_true rfl) (rs := _) (congrArg Array.toList Try.results42) ?_
  refine PW.go tab_ok [] fun K hK => ?_
  simp only [go_sem, ↓reduceIte, reduceCtorEq, Nat.reduceBEq, Nat.reduceAdd, Nat.reduceMul, Nat.reduceSub, Nat.reduceLT, Nat.reduceLeDiff, Nat.reduceEqDiff]
  (refine hK _ _ ?_; (try clear hK); (try clear K))
  refine PW.go tab_ok [] fun K hK => ?_
  simp only [go_sem, ↓reduceIte, reduceCtorEq, Nat.reduceBEq, Nat.reduceAdd, Nat.reduceMul, Nat.reduceSub, Nat.reduceLT, Nat.reduceLeDiff, Nat.reduceEqDiff]
  refine (take_pc (k := 1) h).use 0 rfl (Weaks.refl _) rfl ?_
  refine PO.go tab_ok [] ?_
  simp only [tokPV, go_sem, ↓reduceIte, reduceCtorEq, Nat.reduceBEq, Nat.reduceAdd, Nat.reduceMul, Nat.reduceSub, Nat.reduceLT, Nat.reduceLeDiff, Nat.reduceEqDiff]
  (refine hK _ _ ?_; (try clear hK); (try clear K))
  exact PW.ret (OneM.fin (.inl rfl) rfl rfl (.refl _) rfl)
def endM (r : R) : R := if r.c = 0 ∧ (hd r).kind ≠ 6 then failM 4 r else r
theorem end_pc {r : R} (h : r.ok) : OneM Try.prog 11 [] r (.agg [.int .i64 (endM r).c, .int .i64 (endM r).a]) (endM r) := by
  have h0 := h
  obtain ⟨t, ts, h1, _⟩ := h.cons
  obtain ⟨_, d, c, a⟩ := r
  subst h1
  refine PC.intro tab_ok Try.func11 rfl (by kernel_rfl) Try.ntmps11 (Nat.le_of_ble_eq_true rfl) (rs := _) (congrArg Array.toList Try.results11) ?_
  refine PW.go tab_ok [] fun K hK => ?_
  simp only [go_sem, ↓reduceIte, reduceCtorEq, Nat.reduceBEq, Nat.reduceAdd, Nat.reduceMul, Nat.reduceSub, Nat.reduceLT, Nat.reduceLeDiff, Nat.reduceEqDiff]
  (refine hK _ _ ?_; (try clear hK); (try clear K))
  refine PW.seq_k fun K0 hK0 => ?_
  refine PW.go tab_ok [] fun K hK => ?_
  simp only [go_sem, ↓reduceIte, reduceCtorEq, Nat.reduceBEq, Nat.reduceAdd, Nat.reduceMul, Nat.reduceSub, Nat.reduceLT, Nat.reduceLeDiff, Nat.reduceEqDiff]
  refine (fine_pc (t :: ts) d c a).use 0 rfl .nil rfl (rd_clean _ _ _ _) ?_
  rintro _ _ ⟨rfl, rfl⟩ _ _
  refine PO.go tab_ok [] ?_
  have hlast : ∀ {env : Env} {st : St} (r' : R), Sub env [(0, .ref 0 0), (2, .ref 1 0)] → st = ⟨[rPV r', [.int .i64 0, .int .i64 0]], []⟩ → endM ⟨t :: ts, d, c, a⟩ = r' → K0 env st := by
    rintro env st r' hsub rfl hr
    refine hK0 _ _ (PW.less _ hsub ?_)
    refine PW.go tab_ok [] fun K hK => ?_
    simp only [rPV, rdPV, go_sem, ↓reduceIte, reduceCtorEq, Nat.reduceBEq, Nat.reduceAdd, Nat.reduceMul, Nat.reduceSub, Nat.reduceLT, Nat.reduceLeDiff, Nat.reduceEqDiff]
    (refine hK _ _ ?_; (try clear hK); (try clear K))
    subst hr
    exact PW.ret (OneM.fin (.inl rfl) rfl rfl (.refl _) rfl)
  by_cases hc : c = 0
  · subst hc
    have hc' : ((0 : Int) == 0) = true := rfl
    simp only [hc', go_sem, ↓reduceIte, reduceCtorEq, Nat.reduceBEq, Nat.reduceAdd, Nat.reduceMul, Nat.reduceSub, Nat.reduceLT, Nat.reduceLeDiff, Nat.reduceEqDiff]
    refine (next_pc t ts d 0 a).use 0 rfl .nil rfl (rd_clean _ _ _ _) ?_
    rintro _ _ ⟨rfl, rfl⟩ _ _
    refine PO.go tab_ok [] ?_
    by_cases hk : t.kind = 6
    · have hk' : (t.kind != 6) = false := by simp [hk]
      simp only [tokPV, hk', go_sem, ↓reduceIte, reduceCtorEq, Nat.reduceBEq, Nat.reduceAdd, Nat.reduceMul, Nat.reduceSub, Nat.reduceLT, Nat.reduceLeDiff, Nat.reduceEqDiff]
      (refine hK _ _ ?_; (try clear hK); (try clear K))
      refine PW.cond_split (b := false) rfl ?_ ?_ <;> intro hb
      · cases hb
      exact PW.skip (hlast ⟨t :: ts, d, 0, a⟩ (by simp [Sub, eget]) rfl (by simp [endM, hd, hk]))
    · have hk' : (t.kind != 6) = true := by simp [hk]
      simp only [tokPV, hk', go_sem, ↓reduceIte, reduceCtorEq, Nat.reduceBEq, Nat.reduceAdd, Nat.reduceMul, Nat.reduceSub, Nat.reduceLT, Nat.reduceLeDiff, Nat.reduceEqDiff]
      (refine hK _ _ ?_; (try clear hK); (try clear K))
      refine PW.cond_split (b := true) rfl ?_ ?_ <;> intro hb
      · refine PW.goL tab_ok [] fun K hK => ?_
        simp only [go_sem, ↓reduceIte, reduceCtorEq, Nat.reduceBEq, Nat.reduceAdd, Nat.reduceMul, Nat.reduceSub, Nat.reduceLT, Nat.reduceLeDiff, Nat.reduceEqDiff]
        refine (fail_pc' h0 4).use 0 rfl (Weaks.refl _) rfl ?_
        refine PO.go tab_ok [] ?_
        simp only [go_sem, ↓reduceIte, reduceCtorEq, Nat.reduceBEq, Nat.reduceAdd, Nat.reduceMul, Nat.reduceSub, Nat.reduceLT, Nat.reduceLeDiff, Nat.reduceEqDiff]
        (refine hK _ _ ?_; (try clear hK); (try clear K))
        exact hlast (failM 4 ⟨t :: ts, d, 0, a⟩) (by simp [Sub, eget]) rfl (by simp [endM, hd, hk])
      · cases hb
  · have hc' : (c == 0) = false := by simp [hc]
    simp only [hc', go_sem, ↓reduceIte, reduceCtorEq, Nat.reduceBEq, Nat.reduceAdd, Nat.reduceMul, Nat.reduceSub, Nat.reduceLT, Nat.reduceLeDiff, Nat.reduceEqDiff]
    (refine hK _ _ ?_; (try clear hK); (try clear K))
    refine PW.cond_split (b := false) rfl ?_ ?_ <;> intro hb
    · cases hb
    exact PW.skip (hlast ⟨t :: ts, d, c, a⟩ (by simp [Sub, eget]) rfl (by simp [endM, hc]))
end Go.Proofs.Ytolhbjfaahcekaa
end
section
/- The parser's reader: trees, columns, literals, what is one deeper. -/
set_option linter.unusedVariables false
set_option linter.unusedSimpArgs false
namespace Go.Proofs.Ytolhbjfaahcekaa
open Go

structure Vl where
  k : Int
  n : Int
  t : Str
inductive Ex where
  | mk (k o : Int) (t n : Str) (v : Vl) (l : List Ex)
def vC (v : Vl) : List PV := [.int .i64 v.k, .int .i64 v.n, .str v.t]
mutual
def exC : Ex → List PV
  | .mk k o t n v l => [.int .i64 k, .int .i64 o, .str t, .str n, .int .i64 v.k, .int .i64 v.n, .str v.t, .list 8 (exPVs l) .no]
def exPVs : List Ex → List PV
  | [] => []
  | e :: es => .agg (exC e) :: exPVs es
end
def exPV (e : Ex) : PV := .agg (exC e)
theorem agg_exC (e : Ex) : PV.agg (exC e) = exPV e := rfl
theorem exPV_cells (e : Ex) : (exPV e).cells = exC e := rfl
theorem exPVs_eq (l : List Ex) : exPVs l = l.map exPV := by
  induction l with
  | nil => rfl
  | cons e l ih => simp only [exPVs, List.map_cons, ih]; rfl
theorem exC_len (e : Ex) : (exC e).length = 8 := by cases e; rfl
theorem exC_all (e : Ex) : (exC e).all PV.isCell = true := by cases e; rfl
theorem exC_take (e : Ex) : (exC e).take 8 = exC e := by cases e; rfl
theorem exC_drop (e : Ex) : (exC e).drop 8 = [] := by cases e; rfl
theorem exPV_isCell (e : Ex) : (exPV e).isCell = false := rfl
mutual
theorem ex_clean : ∀ e : Ex, PVs.clean 0 0 (exC e) = true
  | .mk k o t n v l => by simp [exC, PVs.clean, PV.clean, exs_clean l]
theorem exs_clean : ∀ l : List Ex, PVs.clean 0 0 (exPVs l) = true
  | [] => rfl
  | e :: es => by simp [exPVs, PVs.clean, PV.clean, ex_clean e, exs_clean es]
end
theorem exPV_clean (e : Ex) : PV.clean 0 0 (exPV e) = true := by simp [exPV, PV.clean, ex_clean]
def v0 : Vl := ⟨0, 0, []⟩
def ex0 : Ex := .mk 0 0 [] [] v0 []
theorem ex_weak (k o : Int) (t n : Str) (a b : Int) (c : Str) : Weak (.agg [.int .i64 k, .int .i64 o, .str t, .str n, .int .i64 a, .int .i64 b, .str c, .list 0 [] .nil]) (exPV (.mk k o t n ⟨a, b, c⟩ [])) := by
  refine Weak.agg ?_ ?_
  · simp [exC, exPVs, Weak.nil]
  · intro y hy
    simp only [exC, List.mem_cons, List.not_mem_nil, or_false] at hy
    rcases hy with rfl | rfl | rfl | rfl | rfl | rfl | rfl | rfl <;> rfl

def ofM (k : Int) (e : Ex) : Ex := .mk k 0 [] [] v0 [e]
theorem of_pc (k : Int) (e : Ex) : Pure Try.prog 62 [.int .i64 k, exPV e] (exPV (ofM k e)) := by
  refine PC.intro tab_ok Try.func62 rfl (by kernel_rfl) Try.ntmps62 (Nat.le_of_ble_eq_true rfl) (rs := _) (congrArg Array.toList Try.results62) ?_
  refine PW.go tab_ok [] fun K hK => ?_
  simp only [exPV_cells, exC_len, exC_all, go_sem, ↓reduceIte, reduceCtorEq, Nat.reduceBEq, Nat.reduceAdd, Nat.reduceMul, Nat.reduceSub, Nat.reduceLT, Nat.reduceLeDiff, Nat.reduceEqDiff]
  (refine hK _ _ ?_; (try clear hK); (try clear K))
  refine PW.go tab_ok [] fun K hK => ?_
  simp only [exPV_cells, exC_len, exC_all, exC_take, agg_exC, go_sem, ↓reduceIte, reduceCtorEq, Nat.reduceBEq, Nat.reduceAdd, Nat.reduceMul, Nat.reduceSub, Nat.reduceLT, Nat.reduceLeDiff, Nat.reduceEqDiff]
  (refine hK _ _ ?_; (try clear hK); (try clear K))
  exact PW.ret (Pure.ret rfl rfl (by simp [exPV, PV.clean, ex_clean]))

def colM (r : R) : Ex × R :=
  let p := nameM r
  let q := hasM [46] p.2
  if q.1 then (.mk 2 0 p.1 (nameM q.2).1 v0 [], (nameM q.2).2) else (.mk 2 0 [] p.1 v0 [], q.2)
theorem column_pc {r : R} (h : r.ok) : OneM Try.prog 68 [] r (exPV (colM r).1) (colM r).2 := by
  refine PC.intro tab_ok Try.func68 rfl (by kernel_rfl) Try.ntmps68 (Nat.le_of_ble_eq_true rfl) (rs := _) (congrArg Array.toList Try.results68) ?_
  refine PW.go tab_ok [] fun K hK => ?_
  simp only [go_sem, ↓reduceIte, reduceCtorEq, Nat.reduceBEq, Nat.reduceAdd, Nat.reduceMul, Nat.reduceSub, Nat.reduceLT, Nat.reduceLeDiff, Nat.reduceEqDiff]
  (refine hK _ _ ?_; (try clear hK); (try clear K))
  refine PW.go tab_ok [] fun K hK => ?_
  simp only [go_sem, ↓reduceIte, reduceCtorEq, Nat.reduceBEq, Nat.reduceAdd, Nat.reduceMul, Nat.reduceSub, Nat.reduceLT, Nat.reduceLeDiff, Nat.reduceEqDiff]
  refine (name_pc h).use 0 rfl (Weaks.refl _) rfl ?_
  refine PO.go tab_ok [] ?_
  simp only [go_sem, ↓reduceIte, reduceCtorEq, Nat.reduceBEq, Nat.reduceAdd, Nat.reduceMul, Nat.reduceSub, Nat.reduceLT, Nat.reduceLeDiff, Nat.reduceEqDiff]
  (refine hK _ _ ?_; (try clear hK); (try clear K))
  refine PW.seq_k fun K0 hK0 => ?_
  refine PW.go tab_ok [] fun K hK => ?_
  simp only [go_sem, ↓reduceIte, reduceCtorEq, Nat.reduceBEq, Nat.reduceAdd, Nat.reduceMul, Nat.reduceSub, Nat.reduceLT, Nat.reduceLeDiff, Nat.reduceEqDiff]
  refine (has_pc (s := [46]) (nameM_ok h)).use 0 rfl (Weaks.refl _) rfl ?_
  refine PO.go tab_ok [] ?_
  simp only [go_sem, ↓reduceIte, reduceCtorEq, Nat.reduceBEq, Nat.reduceAdd, Nat.reduceMul, Nat.reduceSub, Nat.reduceLT, Nat.reduceLeDiff, Nat.reduceEqDiff]
  (refine hK _ _ ?_; (try clear hK); (try clear K))
  refine PW.cond_split (b := (hasM [46] (nameM r).2).1) rfl ?_ ?_ <;> intro hb
  · refine PW.go tab_ok [] fun K hK => ?_
    simp only [go_sem, ↓reduceIte, reduceCtorEq, Nat.reduceBEq, Nat.reduceAdd, Nat.reduceMul, Nat.reduceSub, Nat.reduceLT, Nat.reduceLeDiff, Nat.reduceEqDiff]
    (refine hK _ _ ?_; (try clear hK); (try clear K))
    refine PW.goL tab_ok [] fun K hK => ?_
    simp only [go_sem, ↓reduceIte, reduceCtorEq, Nat.reduceBEq, Nat.reduceAdd, Nat.reduceMul, Nat.reduceSub, Nat.reduceLT, Nat.reduceLeDiff, Nat.reduceEqDiff]
    refine (name_pc (hasM_ok (nameM_ok h))).use 0 rfl (Weaks.refl _) rfl ?_
    refine PO.go tab_ok [] ?_
    simp only [go_sem, ↓reduceIte, reduceCtorEq, Nat.reduceBEq, Nat.reduceAdd, Nat.reduceMul, Nat.reduceSub, Nat.reduceLT, Nat.reduceLeDiff, Nat.reduceEqDiff]
    (refine hK _ _ ?_; (try clear hK); (try clear K))
    refine hK0 _ _ ?_
    refine PW.go tab_ok [] fun K hK => ?_
    simp only [go_sem, ↓reduceIte, reduceCtorEq, Nat.reduceBEq, Nat.reduceAdd, Nat.reduceMul, Nat.reduceSub, Nat.reduceLT, Nat.reduceLeDiff, Nat.reduceEqDiff]
    (refine hK _ _ ?_; (try clear hK); (try clear K))
    refine PW.ret (OneM.fin (r' := (colM r).2) (.inl rfl) rfl ?_ ?_ (by simp [exPV, PV.clean, ex_clean]))
    · simp [colM, hb]
    · simp only [colM, hb, if_true]
      exact ex_weak _ _ _ _ _ _ _
  · refine PW.skip (hK0 _ _ ?_)
    refine PW.go tab_ok [] fun K hK => ?_
    simp only [go_sem, ↓reduceIte, reduceCtorEq, Nat.reduceBEq, Nat.reduceAdd, Nat.reduceMul, Nat.reduceSub, Nat.reduceLT, Nat.reduceLeDiff, Nat.reduceEqDiff]
    (refine hK _ _ ?_; (try clear hK); (try clear K))
    refine PW.ret (OneM.fin (r' := (colM r).2) (.inl rfl) rfl ?_ ?_ (by simp [exPV, PV.clean, ex_clean]))
    · simp [colM, hb]
    · simp only [colM, hb, Bool.false_eq_true, if_false]
      exact ex_weak _ _ _ _ _ _ _
end Go.Proofs.Ytolhbjfaahcekaa
end
section
/- The parser's reader: literals. -/
set_option linter.unusedVariables false
set_option linter.unusedSimpArgs false
namespace Go.Proofs.Ytolhbjfaahcekaa
open Go

def nxt (r : R) : Tok := r.ts.tail.headD tok0
def sNULL : Str := [78, 85, 76, 76]
def litM (r : R) : (Vl × Bool) × R :=
  if r.c ≠ 0 then ((v0, false), r)
  else if (hd r).kind = 3 then ((⟨1, (hd r).num, []⟩, true), r.tail)
  else if (hd r).kind = 4 then ((⟨2, 0, (hd r).text⟩, true), r.tail)
  else if isM [[45]] r < 0 ∨ (nxt r).kind ≠ 3 then ((v0, (hasM sNULL r).1), (hasM sNULL r).2)
  else ((⟨1, IntKind.i64.wrap (0 - (nxt r).num), []⟩, true), r.tail.tail)
theorem isM_two {ls : List Str} {r : R} (h : r.ok) (hk : 0 ≤ isM ls r) : ∃ t u ts, r.ts = t :: u :: ts := by
  obtain ⟨t, ts, h1, _⟩ := (isM_tail h hk).cons
  unfold R.tail at h1
  simp only at h1
  cases hts : r.ts with
  | nil => rw [hts] at h1; simp at h1
  | cons u us => rw [hts] at h1; simp at h1; exact ⟨u, t, ts, by rw [h1]⟩
theorem literal_pc {r : R} (h : r.ok) : OneM Try.prog 67 [] r (.tup [.agg (vC (litM r).1.1), .bool (litM r).1.2]) (litM r).2 := by
  have h0 := h
  obtain ⟨t, ts, h1, _⟩ := h.cons
  obtain ⟨_, d, c, a⟩ := r
  subst h1
  have hsl : (1 : Int) ≤ ((ts.length + 1 : Nat) : Int) := by omega
  have h01 : (0 : Int) ≤ 1 := by omega
  refine PC.intro tab_ok Try.func67 rfl (by kernel_rfl) Try.ntmps67 (Nat.le_of_ble_eq_true rfl) (rs := _) (congrArg Array.toList Try.results67) ?_
  refine PW.go tab_ok [] fun K hK => ?_
  simp only [go_sem, ↓reduceIte, reduceCtorEq, Nat.reduceBEq, Nat.reduceAdd, Nat.reduceMul, Nat.reduceSub, Nat.reduceLT, Nat.reduceLeDiff, Nat.reduceEqDiff]
  (refine hK _ _ ?_; (try clear hK); (try clear K))
  refine PW.seq_k fun K0 hK0 => ?_
  refine PW.go tab_ok [] fun K hK => ?_
  simp only [go_sem, ↓reduceIte, reduceCtorEq, Nat.reduceBEq, Nat.reduceAdd, Nat.reduceMul, Nat.reduceSub, Nat.reduceLT, Nat.reduceLeDiff, Nat.reduceEqDiff]
  refine (fine_pc (t :: ts) d c a).use 0 rfl .nil rfl (rd_clean _ _ _ _) ?_
  rintro _ _ ⟨rfl, rfl⟩ _ _
  refine PO.go tab_ok [] ?_
  simp only [go_sem, ↓reduceIte, reduceCtorEq, Nat.reduceBEq, Nat.reduceAdd, Nat.reduceMul, Nat.reduceSub, Nat.reduceLT, Nat.reduceLeDiff, Nat.reduceEqDiff]
  (refine hK _ _ ?_; (try clear hK); (try clear K))
  refine PW.cond_split (b := !(c == 0)) rfl ?_ ?_ <;> intro hb
  · have hc : c ≠ 0 := by simpa using hb
    refine PW.go tab_ok [] fun K hK => ?_
    simp only [go_sem, ↓reduceIte, reduceCtorEq, Nat.reduceBEq, Nat.reduceAdd, Nat.reduceMul, Nat.reduceSub, Nat.reduceLT, Nat.reduceLeDiff, Nat.reduceEqDiff]
    (refine hK _ _ ?_; (try clear hK); (try clear K))
    refine PW.ret (OneM.fin (r' := (litM ⟨t :: ts, d, c, a⟩).2) (.inl rfl) rfl ?_ ?_ rfl)
    · simp [litM, hc, rPV]
    · simp [litM, hc, resPV, vC, v0]
  have hc : c = 0 := by simpa using hb
  subst hc
  refine PW.skip (hK0 _ _ ?_)
  clear hK0 K0
  refine PW.seq_k fun K0 hK0 => ?_
  have hlast : ∀ {env : Env} {st : St} (r' : R) (v : Vl) (rest : List (List PV)), Sub env [(0, .ref 0 0), (2, .ref 1 0)] → st = ⟨rPV r' :: vC v :: rest, []⟩ → (1 : Int) ≤ (r'.ts.length : Int) → litM ⟨t :: ts, d, 0, a⟩ = ((v, true), r'.tail) → K0 env st := by
    rintro env st r' v rest hsub rfl hl hr
    refine hK0 _ _ (PW.less _ hsub ?_)
    refine PW.go tab_ok [] fun K hK => ?_
    simp only [rPV, rdPV, hl, h01, go_sem, ↓reduceIte, reduceCtorEq, Nat.reduceBEq, Nat.reduceAdd, Nat.reduceMul, Nat.reduceSub, Nat.reduceLT, Nat.reduceLeDiff, Nat.reduceEqDiff]
    (refine hK _ _ ?_; (try clear hK); (try clear K))
    refine PW.go tab_ok [] fun K hK => ?_
    simp only [vC, go_sem, ↓reduceIte, reduceCtorEq, Nat.reduceBEq, Nat.reduceAdd, Nat.reduceMul, Nat.reduceSub, Nat.reduceLT, Nat.reduceLeDiff, Nat.reduceEqDiff]
    (refine hK _ _ ?_; (try clear hK); (try clear K))
    refine PW.ret (OneM.fin (r' := (litM ⟨t :: ts, d, 0, a⟩).2) (.inl rfl) rfl ?_ ?_ rfl)
    · simp [hr, R.tail, rPV, rdPV, List.map_drop]
    · simp [hr, resPV, vC]
  refine PW.go tab_ok [] fun K hK => ?_
  simp only [go_sem, ↓reduceIte, reduceCtorEq, Nat.reduceBEq, Nat.reduceAdd, Nat.reduceMul, Nat.reduceSub, Nat.reduceLT, Nat.reduceLeDiff, Nat.reduceEqDiff]
  refine (next_pc t ts d 0 a).use 0 rfl .nil rfl (rd_clean _ _ _ _) ?_
  rintro _ _ ⟨rfl, rfl⟩ _ _
  refine PO.go tab_ok [] ?_
  simp only [tokPV, go_sem, ↓reduceIte, reduceCtorEq, Nat.reduceBEq, Nat.reduceAdd, Nat.reduceMul, Nat.reduceSub, Nat.reduceLT, Nat.reduceLeDiff, Nat.reduceEqDiff]
  (refine hK _ _ ?_; (try clear hK); (try clear K))
  refine PW.go tab_ok [] fun K hK => ?_
  simp only [go_sem, ↓reduceIte, reduceCtorEq, Nat.reduceBEq, Nat.reduceAdd, Nat.reduceMul, Nat.reduceSub, Nat.reduceLT, Nat.reduceLeDiff, Nat.reduceEqDiff]
  (refine hK _ _ ?_; (try clear hK); (try clear K))
  refine PW.block ?_
  refine PW.go tab_ok [] fun K hK => ?_
  simp only [go_sem, ↓reduceIte, reduceCtorEq, Nat.reduceBEq, Nat.reduceAdd, Nat.reduceMul, Nat.reduceSub, Nat.reduceLT, Nat.reduceLeDiff, Nat.reduceEqDiff]
  (refine hK _ _ ?_; (try clear hK); (try clear K))
  refine PW.cond_split (b := t.kind == 3) rfl ?_ ?_ <;> intro hb1
  · have hk : t.kind = 3 := by simpa using hb1
    refine PW.goL tab_ok [] fun K hK => ?_
    simp only [go_sem, ↓reduceIte, reduceCtorEq, Nat.reduceBEq, Nat.reduceAdd, Nat.reduceMul, Nat.reduceSub, Nat.reduceLT, Nat.reduceLeDiff, Nat.reduceEqDiff]
    (refine hK _ _ ?_; (try clear hK); (try clear K))
    exact hlast ⟨t :: ts, d, 0, a⟩ ⟨1, t.num, []⟩ _ (by simp [Sub, eget]) rfl (by simp; omega) (by simp [litM, hd, hk])
  have hk3 : t.kind ≠ 3 := by simpa using hb1
  refine PW.go tab_ok [] fun K hK => ?_
  simp only [go_sem, ↓reduceIte, reduceCtorEq, Nat.reduceBEq, Nat.reduceAdd, Nat.reduceMul, Nat.reduceSub, Nat.reduceLT, Nat.reduceLeDiff, Nat.reduceEqDiff]
  (refine hK _ _ ?_; (try clear hK); (try clear K))
  refine PW.cond_split (b := t.kind == 4) rfl ?_ ?_ <;> intro hb2
  · have hk : t.kind = 4 := by simpa using hb2
    refine PW.goL tab_ok [] fun K hK => ?_
    simp only [go_sem, ↓reduceIte, reduceCtorEq, Nat.reduceBEq, Nat.reduceAdd, Nat.reduceMul, Nat.reduceSub, Nat.reduceLT, Nat.reduceLeDiff, Nat.reduceEqDiff]
    (refine hK _ _ ?_; (try clear hK); (try clear K))
    exact hlast ⟨t :: ts, d, 0, a⟩ ⟨2, 0, t.text⟩ _ (by simp [Sub, eget]) rfl (by simp; omega) (by simp [litM, hd, hk])
  have hk4 : t.kind ≠ 4 := by simpa using hb2
  refine PW.seq_k fun K1 hK1 => ?_
  refine PW.go tab_ok [] fun K hK => ?_
  simp only [go_sem, ↓reduceIte, reduceCtorEq, Nat.reduceBEq, Nat.reduceAdd, Nat.reduceMul, Nat.reduceSub, Nat.reduceLT, Nat.reduceLeDiff, Nat.reduceEqDiff]
  refine (is_pc (ls := [[45]]) (by simp) h0).use 0 rfl (Weaks.refl _) (strs_clean1 [[45]]) ?_
  refine PO.go tab_ok [] ?_
  by_cases hi : isM [[45]] ⟨t :: ts, d, 0, a⟩ < 0
  · have hi' : decide (isM [[45]] ⟨t :: ts, d, 0, a⟩ < 0) = true := by simpa using hi
    have hbad : isM [[45]] ⟨t :: ts, d, 0, a⟩ < 0 ∨ ¬ (nxt ⟨t :: ts, d, 0, a⟩).kind = 3 := .inl hi
    simp only [hi', go_sem, ↓reduceIte, reduceCtorEq, Nat.reduceBEq, Nat.reduceAdd, Nat.reduceMul, Nat.reduceSub, Nat.reduceLT, Nat.reduceLeDiff, Nat.reduceEqDiff]
    (refine hK _ _ ?_; (try clear hK); (try clear K))
    refine PW.cond_split (b := true) rfl ?_ ?_ <;> intro hb
    · refine PW.draws tab_ok mixed [] [(0, []), (1, []), (2, [0]), (3, []), (4, [])] (by kernel_rfl) fun K hK => ?_
      simp only [go_sem, ↓reduceIte, reduceCtorEq, Nat.reduceBEq, Nat.reduceAdd, Nat.reduceMul, Nat.reduceSub, Nat.reduceLT, Nat.reduceLeDiff, Nat.reduceEqDiff]
      refine (has_pc (s := sNULL) h0).use 0 rfl (Weaks.refl _) rfl ?_
      refine ⟨?_, GO.go tab_ok ?_⟩
      · simp only [go_sem, ↓reduceIte, reduceCtorEq, Nat.reduceBEq, Nat.reduceAdd, Nat.reduceMul, Nat.reduceSub, Nat.reduceLT, Nat.reduceLeDiff, Nat.reduceEqDiff]
      simp only [go_sem, ↓reduceIte, reduceCtorEq, Nat.reduceBEq, Nat.reduceAdd, Nat.reduceMul, Nat.reduceSub, Nat.reduceLT, Nat.reduceLeDiff, Nat.reduceEqDiff]
      (refine hK _ _ ?_; (try clear hK); (try clear K))
      refine PW.ret (OneM.fin (r' := (litM ⟨t :: ts, d, 0, a⟩).2) (.inl rfl) rfl ?_ ?_ rfl)
      · simp [litM, hd, hk3, hk4, hbad]
      · simp [litM, hd, hk3, hk4, hbad, resPV, vC, v0]
    · cases hb
  have hi' : decide (isM [[45]] ⟨t :: ts, d, 0, a⟩ < 0) = false := by simpa using hi
  obtain ⟨t', u, us, hts⟩ := isM_two h0 (Int.not_lt.1 hi)
  simp only [List.cons.injEq] at hts
  obtain ⟨rfl, rfl⟩ := hts
  by_cases hu : u.kind = 3
  · have hu' : (u.kind != 3) = false := by simp [hu]
    have hn1 : Int.toNat 1 = 1 := rfl
    simp only [hi', hu', h01, rPV, rdPV, tokPV, go_sem, ↓reduceIte, reduceCtorEq, Nat.reduceBEq, Nat.reduceAdd, Nat.reduceMul, Nat.reduceSub, Nat.reduceLT, Nat.reduceLeDiff, Nat.reduceEqDiff]
    (refine hK _ _ ?_; (try clear hK); (try clear K))
    refine PW.cond_split (b := false) rfl ?_ ?_ <;> intro hb
    · cases hb
    refine PW.skip (hK1 _ _ ?_)
    have hsl2 : (1 : Int) ≤ ((us.length + 1 + 1 : Nat) : Int) := by omega
    refine PW.go tab_ok [] fun K hK => ?_
    simp only [h01, rPV, rdPV, tokPV, go_sem, ↓reduceIte, reduceCtorEq, Nat.reduceBEq, Nat.reduceAdd, Nat.reduceMul, Nat.reduceSub, Nat.reduceLT, Nat.reduceLeDiff, Nat.reduceEqDiff]
    (refine hK _ _ ?_; (try clear hK); (try clear K))
    refine PW.goL tab_ok [] fun K hK => ?_
    simp only [h01, hsl2, go_sem, ↓reduceIte, reduceCtorEq, Nat.reduceBEq, Nat.reduceAdd, Nat.reduceMul, Nat.reduceSub, Nat.reduceLT, Nat.reduceLeDiff, Nat.reduceEqDiff]
    (refine hK _ _ ?_; (try clear hK); (try clear K))
    exact hlast ⟨u :: us, d, 0, a⟩ ⟨1, IntKind.i64.wrap (0 - u.num), []⟩ _ (by simp [Sub, eget]) rfl (by simp; omega) (by simp [litM, hd, hk3, hk4, hi, nxt, hu, R.tail])
  · have hu' : (u.kind != 3) = true := by simp [hu]
    have hbad : isM [[45]] ⟨t :: u :: us, d, 0, a⟩ < 0 ∨ ¬ (nxt ⟨t :: u :: us, d, 0, a⟩).kind = 3 := .inr hu
    simp only [hi', hu', h01, rPV, rdPV, tokPV, go_sem, ↓reduceIte, reduceCtorEq, Nat.reduceBEq, Nat.reduceAdd, Nat.reduceMul, Nat.reduceSub, Nat.reduceLT, Nat.reduceLeDiff, Nat.reduceEqDiff]
    (refine hK _ _ ?_; (try clear hK); (try clear K))
    refine PW.cond_split (b := true) rfl ?_ ?_ <;> intro hb
    · refine PW.draws tab_ok mixed [] [(0, []), (1, []), (2, [0]), (3, []), (4, [])] (by kernel_rfl) fun K hK => ?_
      simp only [go_sem, ↓reduceIte, reduceCtorEq, Nat.reduceBEq, Nat.reduceAdd, Nat.reduceMul, Nat.reduceSub, Nat.reduceLT, Nat.reduceLeDiff, Nat.reduceEqDiff]
      refine (has_pc (s := sNULL) h0).use 0 rfl (Weaks.refl _) rfl ?_
      refine ⟨?_, GO.go tab_ok ?_⟩
      · simp only [go_sem, ↓reduceIte, reduceCtorEq, Nat.reduceBEq, Nat.reduceAdd, Nat.reduceMul, Nat.reduceSub, Nat.reduceLT, Nat.reduceLeDiff, Nat.reduceEqDiff]
      simp only [go_sem, ↓reduceIte, reduceCtorEq, Nat.reduceBEq, Nat.reduceAdd, Nat.reduceMul, Nat.reduceSub, Nat.reduceLT, Nat.reduceLeDiff, Nat.reduceEqDiff]
      (refine hK _ _ ?_; (try clear hK); (try clear K))
      refine PW.ret (OneM.fin (r' := (litM ⟨t :: u :: us, d, 0, a⟩).2) (.inl rfl) rfl ?_ ?_ rfl)
      · simp [litM, hd, hk3, hk4, hbad]
      · simp [litM, hd, hk3, hk4, hbad, resPV, vC, v0]
    · cases hb
end Go.Proofs.Ytolhbjfaahcekaa
end
section
/- The parser's reader: what is one deeper; rows of operators. -/
set_option linter.unusedVariables false
set_option linter.unusedSimpArgs false
namespace Go.Proofs.Ytolhbjfaahcekaa
open Go

theorem res_cell {tt : TTab} {env : Env} {st : St} {b : Nat} {t : TypeId} {p x : PV} {y : TyI} (h1 : eget env b = some p) (h2 : tt t = some y) (h3 : ldPV y st p = some x) : resAll tt env st [.cell b t] = some [x] := by
  simp [resAll, resOne, h1, h2, h3]
/-- A function that is told of a reader and of a method of it. -/
def OneC (P : Program) (f g : FuncId) (us : List PV) (r : R) (x : PV) (r' : R) : Prop := One P f (.ref 0 0 :: .clo (.func g) [.ref 0 0] [] :: us) (rPV r) fun y cs => y = x ∧ cs = rPV r'
theorem OneC.use {P : Program} {f g : FuncId} {us args : List PV} {r r' : R} {x : PV} (h : OneC P f g us r x r') (k : Nat) {st : St} {K : PV → St → Prop} (hb : st.box[k]? = some (rPV r)) (ha : Weaks args us) (hc : PVs.clean 0 0 us = true)
    (hk : K x { st with box := st.box.set k (rPV r') }) : PC P f (.ref k 0 :: .clo (.func g) [.ref k 0] [] :: args) st K := by
  refine PC.use h [k] [] (by simp) rfl ⟨by rw [PVs.ren_data (r_clean r)]; exact hb, trivial⟩ trivial ?_ ?_ ?_ ?_
  · rw [PVs.ren, PVs.ren, PVs.ren_data hc]
    exact .cons (by simp [PV.ren, out]) (.cons (by simp [PV.ren, PVs.ren, out]) ha)
  · simp only [PVs.clean, PV.clean, List.length_cons, List.length_nil, PVs.clean_data hc]
    rfl
  · intro cs' h'
    simp at h'
    subst h'
    exact PVs.clean_data (r_clean r)
  · rintro r0 st1 ⟨cs', rfl, ⟨rfl, rfl⟩, h2, h3⟩ _ _
    rw [PV.ren_data h2]
    simpa [merge, mergeL, setAll, PVs.ren_data h3] using hk

def R.deep (r : R) (n : Int) : R := { r with d := r.d + n }
def deepM (r : R) : R := if r.d + 1 > 10 then failM 10 (r.deep 1) else r.deep 1
def withM (one : R → Ex × R) (r : R) : Ex × R := if (deepM r).c = 0 then ((one (deepM r)).1, (one (deepM r)).2.deep (-1)) else (ex0, (deepM r).deep (-1))
theorem wrap_small {n : Int} (h0 : -1000 ≤ n) (h : n ≤ 4611686018427387904) : IntKind.i64.wrap n = n := by
  simp only [IntKind.wrap, IntKind.bits, IntKind.signed]
  simp
  omega
theorem failM_d (e : Int) (r : R) : (failM e r).d = r.d := by unfold failM; split <;> rfl
theorem failM_c (e : Int) (r : R) (he : e ≠ 0) : (failM e r).c ≠ 0 := by unfold failM; split <;> simp_all
theorem within_pc {g : FuncId} {one : R → Ex × R} {r : R} (h : r.ok) (hd0 : 0 ≤ r.d) (hd1 : r.d ≤ 10) (hone : r.c = 0 → r.d + 1 ≤ 10 → OneM Try.prog g [] (r.deep 1) (exPV (one (r.deep 1)).1) (one (r.deep 1)).2 ∧ (one (r.deep 1)).2.d = r.d + 1) :
    OneC Try.prog 63 g [] r (exPV (withM one r).1) (withM one r).2 := by
  have hw : IntKind.i64.wrap (r.d + 1) = r.d + 1 := wrap_small (by omega) (by omega)
  refine PC.intro tab_ok Try.func63 rfl (by kernel_rfl) Try.ntmps63 (Nat.le_of_ble_eq_true rfl) (rs := _) (congrArg Array.toList Try.results63) ?_
  refine PW.go tab_ok [] fun K hK => ?_
  simp only [go_sem, ↓reduceIte, reduceCtorEq, Nat.reduceBEq, Nat.reduceAdd, Nat.reduceMul, Nat.reduceSub, Nat.reduceLT, Nat.reduceLeDiff, Nat.reduceEqDiff]
  (refine hK _ _ ?_; (try clear hK); (try clear K))
  refine PW.go tab_ok [] fun K hK => ?_
  simp only [rPV, rdPV, hw, go_sem, ↓reduceIte, reduceCtorEq, Nat.reduceBEq, Nat.reduceAdd, Nat.reduceMul, Nat.reduceSub, Nat.reduceLT, Nat.reduceLeDiff, Nat.reduceEqDiff]
  (refine hK _ _ ?_; (try clear hK); (try clear K))
  refine PW.seq_k fun K0 hK0 => ?_
  refine PW.go tab_ok [] fun K hK => ?_
  simp only [go_sem, ↓reduceIte, reduceCtorEq, Nat.reduceBEq, Nat.reduceAdd, Nat.reduceMul, Nat.reduceSub, Nat.reduceLT, Nat.reduceLeDiff, Nat.reduceEqDiff]
  (refine hK _ _ ?_; (try clear hK); (try clear K))
  have hrest : ∀ {env : Env} {st : St} (q : R), Sub env [(0, .ref 0 0), (1, .clo (.func g) [.ref 0 0] []), (4, .ref 1 0)] → st = ⟨[rPV q, [.int .i64 0, .int .i64 0, .str [], .str [], .int .i64 0, .int .i64 0, .str [], .list 0 [] .nil]], []⟩ →
      q = deepM r → K0 env st := by
    rintro env st q hsub rfl hq
    have hqd : q.d = r.d + 1 := by
      rw [hq]
      unfold deepM
      split
      · exact failM_d _ _
      · rfl
    refine hK0 _ _ (PW.less _ hsub ?_)
    clear hK0 K0
    refine PW.seq_k fun K0 hK0 => ?_
    have hlast : ∀ {env : Env} {st : St} (q : R) (xs : List PV), Sub env [(0, .ref 0 0), (4, .ref 1 0)] → st = ⟨[rPV q, xs], []⟩ → q.d = r.d + 1 → q.deep (-1) = (withM one r).2 → xs.length = 8 → Weak (.agg xs) (exPV (withM one r).1) → xs.all PV.isCell = true → K0 env st := by
      rintro env st q xs hsub rfl hqd hq hl hw' hall
      have hw2 : IntKind.i64.wrap (q.d - 1) = q.d + -1 := by rw [show q.d - 1 = q.d + -1 from by omega]; exact wrap_small (by omega) (by omega)
      refine hK0 _ _ (PW.less _ hsub ?_)
      have htk : xs.take 8 = xs := List.take_of_length_le (by omega)
      have hdp : xs.drop 8 = [] := List.drop_eq_nil_of_le (by omega)
      refine PW.go tab_ok [] fun K hK => ?_
      simp only [rPV, rdPV, hw2, go_sem, ↓reduceIte, reduceCtorEq, Nat.reduceBEq, Nat.reduceAdd, Nat.reduceMul, Nat.reduceSub, Nat.reduceLT, Nat.reduceLeDiff, Nat.reduceEqDiff]
      (refine hK _ _ ?_; (try clear hK); (try clear K))
      refine PW.go tab_ok [] fun K hK => ?_
      simp only [hl, htk, hdp, hall, go_sem, ↓reduceIte, reduceCtorEq, Nat.reduceBEq, Nat.reduceAdd, Nat.reduceMul, Nat.reduceSub, Nat.reduceLT, Nat.reduceLeDiff, Nat.reduceEqDiff]
      (refine hK _ _ ?_; (try clear hK); (try clear K))
      refine PW.ret (OneM.fin (r' := (withM one r).2) (.inl rfl) (xs := [.agg xs]) ?_ ?_ hw' (exPV_clean _))
      · exact res_cell rfl rfl (by simp only [hl, htk, hdp, hall, go_sem, ↓reduceIte, reduceCtorEq, Nat.reduceBEq, Nat.reduceAdd, Nat.reduceMul, Nat.reduceSub, Nat.reduceLT, Nat.reduceLeDiff, Nat.reduceEqDiff])
      · rw [← hq]; rfl
    refine PW.go tab_ok [] fun K hK => ?_
    simp only [go_sem, ↓reduceIte, reduceCtorEq, Nat.reduceBEq, Nat.reduceAdd, Nat.reduceMul, Nat.reduceSub, Nat.reduceLT, Nat.reduceLeDiff, Nat.reduceEqDiff]
    refine (fine_pc q.ts q.d q.c q.a).use 0 rfl .nil rfl (rd_clean _ _ _ _) ?_
    rintro _ _ ⟨rfl, rfl⟩ _ _
    refine PO.go tab_ok [] ?_
    simp only [go_sem, ↓reduceIte, reduceCtorEq, Nat.reduceBEq, Nat.reduceAdd, Nat.reduceMul, Nat.reduceSub, Nat.reduceLT, Nat.reduceLeDiff, Nat.reduceEqDiff]
    (refine hK _ _ ?_; (try clear hK); (try clear K))
    refine PW.cond_split (b := q.c == 0) rfl ?_ ?_ <;> intro hb
    · have hc : q.c = 0 := by simpa using hb
      have hq1 : ¬ r.d + 1 > 10 := by
        intro h10
        unfold deepM at hq
        rw [if_pos h10] at hq
        exact failM_c 10 (r.deep 1) (by decide) (by rw [← hq]; exact hc)
      have hq' := hq
      unfold deepM at hq
      rw [if_neg hq1] at hq
      subst hq
      obtain ⟨h1, h2⟩ := hone (by simpa [R.deep] using hc) (by omega)
      refine PW.goL tab_ok [] fun K hK => ?_
      simp only [go_sem, ↓reduceIte, reduceCtorEq, Nat.reduceBEq, Nat.reduceAdd, Nat.reduceMul, Nat.reduceSub, Nat.reduceLT, Nat.reduceLeDiff, Nat.reduceEqDiff]
      refine h1.use 0 rfl (Weaks.refl _) rfl ?_
      refine PO.go tab_ok [] ?_
      simp only [exPV_cells, exC_len, exC_all, go_sem, ↓reduceIte, reduceCtorEq, Nat.reduceBEq, Nat.reduceAdd, Nat.reduceMul, Nat.reduceSub, Nat.reduceLT, Nat.reduceLeDiff, Nat.reduceEqDiff]
      (refine hK _ _ ?_; (try clear hK); (try clear K))
      refine hlast (one (r.deep 1)).2 (exC (one (r.deep 1)).1) (by simp [Sub, eget]) rfl h2 ?_ (exC_len _) ?_ (exC_all _)
      · simp [withM, ← hq', hc]
      · simp only [withM, ← hq', hc, if_true]
        exact .refl _
    · have hc : q.c ≠ 0 := by simpa using hb
      refine PW.skip ?_
      refine hlast q [.int .i64 0, .int .i64 0, .str [], .str [], .int .i64 0, .int .i64 0, .str [], .list 0 [] .nil] (by simp [Sub, eget]) rfl hqd ?_ rfl ?_ rfl
      · simp only [withM, ← hq, hc, if_false]
      · simp only [withM, ← hq, hc, if_false]
        exact ex_weak _ _ _ _ _ _ _
  refine PW.cond_split (b := decide (r.d + 1 > 10)) rfl ?_ ?_ <;> intro hb
  · have h10 : r.d + 1 > 10 := by simpa using hb
    refine PW.goL tab_ok [] fun K hK => ?_
    simp only [go_sem, ↓reduceIte, reduceCtorEq, Nat.reduceBEq, Nat.reduceAdd, Nat.reduceMul, Nat.reduceSub, Nat.reduceLT, Nat.reduceLeDiff, Nat.reduceEqDiff]
    refine (fail_pc' (r := r.deep 1) h 10).use 0 rfl (Weaks.refl _) rfl ?_
    refine PO.go tab_ok [] ?_
    simp only [go_sem, ↓reduceIte, reduceCtorEq, Nat.reduceBEq, Nat.reduceAdd, Nat.reduceMul, Nat.reduceSub, Nat.reduceLT, Nat.reduceLeDiff, Nat.reduceEqDiff]
    (refine hK _ _ ?_; (try clear hK); (try clear K))
    exact hrest (failM 10 (r.deep 1)) (by simp [Sub, eget]) rfl (by rw [deepM, if_pos h10])
  · have h10 : ¬ r.d + 1 > 10 := by simpa using hb
    exact PW.skip (hrest (r.deep 1) (by simp [Sub, eget]) rfl (by rw [deepM, if_neg h10]))
end Go.Proofs.Ytolhbjfaahcekaa
end
