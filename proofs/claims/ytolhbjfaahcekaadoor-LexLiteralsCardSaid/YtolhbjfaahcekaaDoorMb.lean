/- Texts of this claim's author, joined: Vj, Vk, Vl, Vm, Vn, Vo, Vp, Vq, Vr, Vs, Vu, P0, Pb, Qa, Qb, Qc, Qd, Qe, Qf, Qg. -/
import Derived.Test.YtolhbjfaahcekaaDoorMa
import Derived.Laws.StructEq
import Derived.Lib.LazyBuf
import Derived.Laws.Pointers
import Derived.Orders
import Derived.Scope
import Derived.Lib.Bytealg
import Derived.Laws.Externs
section
/- The machine does what the rules say: all operations; regions. -/
set_option linter.unusedVariables false
set_option linter.unusedSimpArgs false
namespace Go.Proofs.YtolhbjfaahcekaaDoor

section
variable {P : Program} {tt : TTab} {nt : Nat} {o : Oper} {env : Env} {st : St} {G : Gh} {a : Act} {w : World}
variable {K : Env → St → Prop} {next : Act → World → Prop} {Q : Exit → Act → World → Prop}

theorem ok_alloc (ht : TT P tt) {T : TypeId} (ho : o.op = .alloc T) {y : TyI} (hy : tt T = some y) (hk : K (put nt o.dst env (.ref st.box.length 0)) { st with box := st.box ++ [y.zero] })
    (hi : Inv G st w) (ha : ARep G nt env a) (hn : Goes G nt K next) : o.wp P a w next Q := by
  have hy' := ht T y hy
  obtain ⟨z, hz, hzc⟩ := hy'.run_zero w
  obtain ⟨h1, h2⟩ := reps_simple G hy'.simple
  have hzv : z.cells = (y.zero.map PV.toV).toArray := by rw [← hzc]
  refine wp_value (v := .pointer (some ⟨w.heap.size, 0, none⟩)) (x := .ref st.box.length 0) ?_ (Gh.le_addRef G w.heap.size) (hi.newBox h1 h2 T) ha (.ref _ _ _ (addRef_get hi _)) hk hn
  unfold execOp
  simp only [ho]
  simp [Instr.alloc, hz, newVar, newRow, hzv]
theorem ok_box {T : TypeId} {x : Operand} (ho : o.op = .box T x) {p : PV} (hx : ev env x = some p) (hc : p.cells.all PV.isCell = true) (hk : K (put nt o.dst env (.ref st.box.length 0)) { st with box := st.box ++ [p.cells] })
    (hi : Inv G st w) (ha : ARep G nt env a) (hn : Goes G nt K next) : o.wp P a w next Q := by
  have hcl : ∀ y ∈ p.cells, y.isCell = true := by simpa using hc
  have hr := (ha.ev hx).cells hcl
  refine wp_value (v := .pointer (some ⟨w.heap.size, 0, none⟩)) (x := .ref st.box.length 0) ?_ (Gh.le_addRef G w.heap.size) (hi.newBox hr hcl T) ha (.ref _ _ _ (addRef_get hi _)) hk hn
  unfold execOp
  simp only [ho]
  simp [Instr.box, newVar, newRow]
theorem places_ok : ∀ (l : List Field), (l.all fun f => (P.info? f.type).isSome && (P.underlying f.type).isSome) = true →
    ∃ pl : List (Nat × Nat), l.mapM (fun f => (P.info? f.type).map fun i => (f.offset, i.size)) = some pl ∧
      ∀ (i o n : Nat) (ag : Bool), (l.map fun f => (f.offset, ((P.info? f.type).map (·.size)).getD 0, agB P f.type))[i]? = some (o, n, ag) → pl.toArray[i]? = some (o, n)
  | [], _ => ⟨[], by simp, by simp⟩
  | f :: l, h => by
    simp only [List.all_cons, Bool.and_eq_true] at h
    obtain ⟨pl, e1, e2⟩ := places_ok l h.2
    obtain ⟨j, hj⟩ := Option.isSome_iff_exists.1 h.1.1
    refine ⟨(f.offset, j.size) :: pl, by simp [List.mapM_cons, hj, e1], ?_⟩
    intro i o n ag h
    cases i with
    | zero => simp [hj] at h; simp [h.1, h.2.1]
    | succ i => simp only [List.map_cons, List.getElem?_cons_succ] at h; simpa using e2 i o n ag h
theorem ok_build (ht : TT P tt) {T : TypeId} {ps : Array (Nat × Operand)} (ho : o.op = .build T ps) {y : TyI} {xs : List (Nat × PV)} {cs : List PV} (hy : tt T = some y) (hs : y.k = .struct) (hp : evParts env ps.toList = some xs) (hf : fillPV y.flds y.zero xs = some cs)
    (hk : K (put nt o.dst env (.agg cs)) st) (hi : Inv G st w) (ha : ARep G nt env a) (hn : Goes G nt K next) : o.wp P a w next Q := by
  have hy' := ht T y hy
  obtain ⟨fs, hu⟩ := TK.struct_inv hy' hs
  obtain ⟨i, z, hinfo, hsz, _, hz, hzc⟩ := hy'.info
  obtain ⟨h1, h2⟩ := reps_simple G hy'.simple
  obtain ⟨h3, h4⟩ := evParts_ok ha hp
  -- where the fields lie
  have hfl := hy'.flds
  have hfok := hy'.fok
  simp only [fldB, hu] at hfl
  simp only [fokB, hu] at hfok
  obtain ⟨pl, hpl1, hpl2⟩ := places_ok fs.toList hfok
  rw [hfl] at hpl2
  obtain ⟨vs', e1, e2, e3⟩ := fill_ok (flds := y.flds) (fun i => pl.toArray[i]?) hpl2 xs (ps.toList.map fun x => (x.1, a.eval x.2)) y.zero cs (y.zero.map PV.toV) h3 h4 h1 h2 hf
  refine wp_value (v := .agg vs'.toArray) (x := .agg cs) ?_ (.refl G) hi ha (.agg _ _ e3 e2) hk hn
  unfold execOp
  simp only [ho]
  have hb : P.built T (ps.map fun (i, x) => (i, a.eval x)).toList = some vs'.toArray := by
    have hzv : z.cells = (y.zero.map PV.toV).toArray := by rw [← hzc]
    unfold Program.built
    simp only [hinfo, hu, hz]
    rw [hpl1]
    show Instr.fill (fun x => pl.toArray[x]?) z.cells _ = _
    rw [hzv, Array.toList_map]
    exact e1
  simp [run_build w T _ _ hb]
theorem evs_dense (ha : ARep G nt env a) {ps : List (Nat × Operand)} {ps' : List (Nat × PV)} {xs : List PV} (hp : evParts env ps = some ps') (hd : dense 0 ps' = some xs) :
    ∃ vs : List Value, (ps.map fun x => (x.1, a.eval x.2)) = (vs.zipIdx 0).map (fun x => (x.2, x.1)) ∧ Reps G xs vs := by
  obtain ⟨h1, h2⟩ := evParts_ok ha hp
  obtain ⟨h3, h4⟩ := dense_ok hd
  refine ⟨ps.map fun x => a.eval x.2, ?_, ?_⟩
  · have hl := congrArg List.length h1
    simp only [List.length_map] at hl
    have hxl : xs.length = ps.length := by rw [← h4]; simpa using hl
    apply List.ext_getElem?
    intro i
    rw [List.getElem?_map, List.getElem?_map, List.getElem?_zipIdx, List.getElem?_map]
    have e : ((ps.map fun x => (x.1, a.eval x.2)).map (·.1))[i]? = ((xs.zipIdx 0).map (·.2))[i]? := by rw [← h1, h3]
    simp only [List.getElem?_map, List.getElem?_zipIdx] at e
    cases hps : ps[i]? with
    | none => simp
    | some x =>
      rw [hps] at e
      have : i < xs.length := by rw [hxl]; exact (List.getElem?_eq_some_iff.1 hps).1
      rw [List.getElem?_eq_getElem this] at e
      simp at e
      simp [e]
  · rw [← h4]
    simpa [List.map_map, Function.comp_def] using h2
theorem flatMap_cells {xs : List PV} {vs : List Value} (h : Reps G xs vs) (hc : ∀ x ∈ xs, ∀ y ∈ x.cells, y.isCell = true) : Reps G (cellsOf xs) (vs.flatMap fun v => v.cells.toList) := by
  induction xs generalizing vs with
  | nil => cases h; exact .nil
  | cons x xs ih => cases h with
    | cons _ v _ vs h t =>
      rw [cellsOf_cons, List.flatMap_cons]
      exact (h.cells (hc x (by simp))).append (ih t fun y hy => hc y (by simp [hy]))
theorem ok_buildSlice (ht : TT P tt) {ow : List Nat} {T : TypeId} {n : Nat} {ps : Array (Nat × Operand)} (ho : o.op = .buildSlice T n ps) {y ye : TyI} {e : TypeId} {ps' : List (Nat × PV)} {xs : List PV} (hy : tt T = some y) (hs : y.k = .slice e) (hye : tt e = some ye)
    (hp : evParts env ps.toList = some ps') (hd : dense 0 ps' = some xs) (hl : xs.length = n) (h0 : 0 < ye.size) (hmax : n * ye.size ≤ 16777216) (hc : ∀ x ∈ xs, x.cells.length = ye.size ∧ x.cells.all PV.isCell = true)
    (hk : if owns ow o.dst = true then K (put nt o.dst env (.list ye.size xs (.own st.len.length))) { st with len := st.len ++ [n] } else K (put nt o.dst env (.list ye.size xs .no)) st)
    (hi : Inv G st w) (ha : ARep G nt env a) (hn : Goes G nt K next) : o.wp P a w next Q := by
  have hy' := ht T y hy
  have hye' := ht e ye hye
  obtain ⟨i, z, hinfo, hsz, hby, hz, hzc⟩ := hye'.info
  have hu : P.underlying T = some (.slice e) := by have := hy'.und; rw [hs] at this; exact this
  have hzs : z.cells.size = ye.size := by
    have := congrArg List.length hzc
    simp at this
    rw [this, hye'.zlen]
  obtain ⟨vs, hvs, hr⟩ := evs_dense ha hp hd
  have hcell : ∀ x ∈ xs, ∀ y ∈ x.cells, y.isCell = true := fun x hx => by simpa using (hc x hx).2
  have hflat := flatMap_cells hr hcell
  have hvl := hr.length
  have hvsz : ∀ v ∈ vs, v.cells.size = ye.size := by
    intro v hv
    obtain ⟨j, hj⟩ := List.mem_iff_getElem?.1 hv
    have hj2 : j < xs.length := by rw [hvl]; exact (List.getElem?_eq_some_iff.1 hj).1
    obtain ⟨u, hu, hru⟩ := hr.get j _ (List.getElem?_eq_getElem hj2)
    rw [hj] at hu
    injection hu with hu
    subst hu
    have := (hru.cells (hcell _ (List.getElem_mem hj2))).length
    rw [(hc _ (List.getElem_mem hj2)).1] at this
    simpa using this.symm
  have hcl : ∀ x ∈ cellsOf xs, x.isCell = true := by
    intro x hx
    simp only [cellsOf, List.mem_flatMap] at hx
    obtain ⟨y, hy, hx⟩ := hx
    exact hcell y hy x hx
  have hxs : ∀ x ∈ xs, x.cells.length = ye.size := fun x hx => (hc x hx).1
  have hfl : (vs.flatMap fun v => v.cells.toList).length = n * ye.size := by rw [← hflat.length, cellsOf_length hxs, hl]
  have hrun : (execOp a.eval o).run P w = .ok (.value (.slice (some ⟨w.heap.size, 0, none⟩) n n)) (w.alloc (.cells (vs.flatMap fun v => v.cells.toList).toArray e)) := by
    unfold execOp
    simp only [ho]
    by_cases hn0 : n = 0
    · subst hn0
      have hx0 : xs = [] := List.eq_nil_of_length_eq_zero hl
      subst hx0
      have hv0 : vs = [] := List.eq_nil_of_length_eq_zero (by simpa using hvl.symm)
      subst hv0
      have hps : ps = #[] := by
        have := congrArg List.length hvs
        simp at this
        exact this
      subst hps
      have hr0 : Array.range 0 = #[] := Array.eq_empty_of_size_eq_zero (by simp)
      simp [Instr.buildSlice, run_underlying hu, sizeOf, typeInfo, zeroValue, hinfo, Instr.fill, newRow, hr0]
    · have hfw := Great.fill_whole h0 vs ((Array.range (n * ye.size)).map (z.cells[· % z.cells.size]!)) hvsz (by simp; rw [← hl, hvl])
      have hparts : (ps.map fun (i, x) => (i, a.eval x)).toList = (vs.zipIdx 0).map fun x => (x.2, x.1) := by rw [Array.toList_map]; exact hvs
      have hpos : ¬ n * i.size = 0 := by rw [hsz]; exact Nat.ne_of_gt (Nat.mul_pos (by omega) h0)
      have := run_buildSlice w T e n (ps.map fun (i, x) => (i, a.eval x)) _ i z hu hinfo hz (by rw [hsz]; omega) hpos (by rw [hsz, hparts]; exact hfw)
      simp [this]
  have hdat := hi.newDat (vs.flatMap fun v => v.cells.toList) e _ List.prefix_rfl
  split at hk
  · -- it will be appended to
    have hi' := hi.addLen
    obtain ⟨hle, hinv⟩ := hi'.grow (w' := w.alloc (.cells (vs.flatMap fun v => v.cells.toList).toArray e)) (k := st.len.length) (n := 0) (n' := n) (b := w.heap.size) (c := n) (sz := ye.size) (vs := vs.flatMap fun v => v.cells.toList) (us := vs.flatMap fun v => v.cells.toList)
      (by simp) (by omega) (hi.fresh _ _ fun m hm => by simp at hm) rfl rfl rfl (by show w.heap.size ≤ (w.heap.push _).size; simp) (fun j hj _ => by
        show (w.heap.push _)[j]? = _
        rw [Array.getElem?_push, if_neg (by omega)]) (.inl rfl) ⟨e, by
        show (w.heap.push _)[w.heap.size]? = _
        simp⟩ List.prefix_rfl hfl hfl (by
        have : n ≤ n * ye.size := Nat.le_mul_of_pos_right _ h0
        simp only [maxLen]; omega) (by rw [hi.dat_new]; exact List.nil_prefix)
    have hst : ({ box := st.box, len := (st.len ++ [0]).set st.len.length n } : St) = { st with len := st.len ++ [n] } := by
      cases st
      simp
    simp only at hinv
    rw [hst] at hinv
    refine wp_value hrun hle hinv ha ?_ hk hn
    have := Rep.list (G := G.to st.len.length n w.heap.size n ye.size (vs.flatMap fun v => v.cells.toList)) ye.size xs (.own st.len.length) w.heap.size 0 n (vs.flatMap fun v => v.cells.toList) (by simp) (by omega) hxs hcl (hflat.mono hle) (by simp [Gh.to]) (by intro k' hk'; injection hk' with hk'; subst hk'; simp [Gh.to, hl])
    rw [hl] at this
    exact this
  · refine wp_value hrun (Gh.le_addDat hi _) hdat ha ?_ hk hn
    have := Rep.list (G := G.addDat w.heap.size (vs.flatMap fun v => v.cells.toList)) ye.size xs .no w.heap.size 0 n (vs.flatMap fun v => v.cells.toList) (by simp) (by omega) hxs hcl (hflat.mono (Gh.le_addDat hi _)) (by simp [Gh.addDat]) (by simp)
    rw [hl] at this
    exact this
end
end Go.Proofs.YtolhbjfaahcekaaDoor
end
section
/- The machine does what the rules say: every operation; a region in its text's order. -/
set_option linter.unusedVariables false
set_option linter.unusedSimpArgs false
namespace Go.Proofs.YtolhbjfaahcekaaDoor

section
variable {P : Program} {tt : TTab} {nt : Nat} {o : Oper} {env : Env} {st : St} {G : Gh} {a : Act} {w : World}
variable {K : Env → St → Prop} {next : Act → World → Prop} {Q : Exit → Act → World → Prop}

theorem run_lo {lo : Option PV} {l : Option Value} (h : ∀ x, lo = some x → ∃ v, l = some v ∧ Rep G x v) (h0 : lo = none → l = none) : (lo = none ∧ l = none) ∨ ∃ x v, lo = some x ∧ l = some v ∧ Rep G x v := by
  cases lo with
  | none => exact .inl ⟨rfl, h0 rfl⟩
  | some x => obtain ⟨v, h1, h2⟩ := h x rfl; exact .inr ⟨x, v, rfl, h1, h2⟩
theorem extract_mk (l : List UInt8) (a b : Nat) (h : a ≤ b) (hb : b ≤ l.length) : (⟨l.toArray⟩ : ByteArray).extract a b = ⟨((l.take b).drop a).toArray⟩ := by
  apply ByteArray.ext
  apply Array.ext'
  simp
  rw [List.take_drop]
  congr 2
  omega
theorem flatMap_take {xs : List PV} {sz : Nat} (h : ∀ x ∈ xs, x.cells.length = sz) : ∀ n, cellsOf (xs.take n) = (cellsOf xs).take (n * sz) := by
  induction xs with
  | nil => simp
  | cons x xs ih =>
    intro n
    cases n with
    | zero => simp
    | succ n =>
      have hx := h x (by simp)
      rw [List.take_succ_cons, cellsOf_cons, cellsOf_cons, ih (fun y hy => h y (by simp [hy])) n, List.take_append, hx, Nat.add_mul, Nat.one_mul]
      rw [List.take_of_length_le (l := x.cells) (by rw [hx]; omega)]
      congr 2
      omega
theorem flatMap_drop {xs : List PV} {sz : Nat} (h : ∀ x ∈ xs, x.cells.length = sz) : ∀ n, cellsOf (xs.drop n) = (cellsOf xs).drop (n * sz) := by
  induction xs with
  | nil => simp
  | cons x xs ih =>
    intro n
    cases n with
    | zero => simp
    | succ n =>
      have hx := h x (by simp)
      rw [List.drop_succ_cons, cellsOf_cons, ih (fun y hy => h y (by simp [hy])) n, List.drop_append, hx, Nat.add_mul, Nat.one_mul]
      rw [List.drop_of_length_le (l := x.cells) (by rw [hx]; omega)]
      simp
/-- A slice's cut. -/
theorem rep_cut {sz : Nat} {xs : List PV} {b o c : Nat} {vs : List Value} {l h : Nat} (hlh : l ≤ h) (hh : h ≤ xs.length) (hc : xs.length ≤ c) (hs : ∀ x ∈ xs, x.cells.length = sz) (h1 : ∀ x ∈ cellsOf xs, x.isCell = true) (hv : Reps G (cellsOf xs) vs)
    (hd : vs <+: (G.dat b).drop o) : Rep G (.list sz ((xs.take h).drop l) .no) (.slice (some (if c = l then ⟨b, o, none⟩ else (⟨b, o, none⟩ : Addr).add (l * sz))) (h - l) (c - l)) := by
  have hlen : ((xs.take h).drop l).length = h - l := by simp; omega
  have hmem : ∀ x ∈ (xs.take h).drop l, x ∈ xs := fun x hx => List.mem_of_mem_take (List.mem_of_mem_drop hx)
  have hcs : cellsOf ((xs.take h).drop l) = ((cellsOf xs).take (h * sz)).drop (l * sz) := by
    rw [flatMap_drop (sz := sz) (fun x hx => hs x (List.mem_of_mem_take hx)), flatMap_take hs]
  have hr : Reps G (cellsOf ((xs.take h).drop l)) ((vs.take (h * sz)).drop (l * sz)) := by rw [hcs]; exact (hv.take _).drop _
  have hcell : ∀ x ∈ cellsOf ((xs.take h).drop l), x.isCell = true := by
    rw [hcs]; intro x hx; exact h1 x (List.mem_of_mem_take (List.mem_of_mem_drop hx))
  have hsz : ∀ x ∈ (xs.take h).drop l, x.cells.length = sz := fun x hx => hs x (hmem x hx)
  by_cases hcl : c = l
  · have h0 : (xs.take h).drop l = [] := List.eq_nil_of_length_eq_zero (by omega)
    rw [if_pos hcl, h0, show h - l = 0 from by omega]
    exact Rep.list sz [] .no b o (c - l) [] (by simp) (by simp) (by simp) (by simp) .nil List.nil_prefix (by simp)
  · rw [if_neg hcl, add_lit]
    have hp : (vs.take (h * sz)).drop (l * sz) <+: (G.dat b).drop (o + l * sz) := by
      rw [← List.drop_drop]
      have h3 : (vs.take (h * sz)).drop (l * sz) <+: vs.drop (l * sz) := by
        rw [List.drop_take]
        exact List.take_prefix _ _
      refine h3.trans ?_
      rcases Nat.lt_or_ge vs.length (l * sz) with hlt | hge
      · rw [List.drop_eq_nil_of_le (by omega)]; exact List.nil_prefix
      · exact prefix_drop hd _ hge
    have := Rep.list (G := G) sz ((xs.take h).drop l) .no b (o + l * sz) (c - l) _ (by simp) (by rw [hlen]; omega) hsz hcell hr hp (by simp)
    rw [hlen] at this
    exact this
theorem evo_ok (ha : ARep G nt env a) {lo : Option Operand} {l : Option PV} (h : evo env lo = some l) : (l = none ∧ lo.map a.eval = none) ∨ ∃ x, l = some x ∧ ∃ v, lo.map a.eval = some v ∧ Rep G x v := by
  cases lo with
  | none => simp [evo] at h; exact .inl ⟨h.symm, rfl⟩
  | some o =>
    simp only [evo] at h
    cases he : ev env o with
    | none => rw [he] at h; simp at h
    | some x =>
      rw [he] at h
      simp at h
      exact .inr ⟨x, h.symm, _, rfl, ha.ev he⟩
theorem run_bound (k : IntKind) (n : Int) (y : Nat) (code : BoundsCode) (h0 : 0 ≤ n) (h1 : n ≤ y) (w : World) : (Instr.sliceBound (.int k n) y code).run P w = .ok n.toNat w := by
  simp [Instr.sliceBound, asIntOf, h0, h1]

theorem ok_slice (ht : TT P tt) {T : TypeId} {x : Operand} {lo hi : Option Operand} (ho : o.op = .slice T x lo hi none) {y : TyI} {p : PV} {l h : Option PV} (hy : tt T = some y)
    (hk : match y.k, p with | .str, .str _ => True | .slice _, .list sz _ _ => ∃ e ye, y.k = .slice e ∧ tt e = some ye ∧ ye.size = sz | _, _ => False) (hx : ev env x = some p) (hlo : evo env lo = some l) (hhi : evo env hi = some h)
    (hc : pCut p l h fun r => K (put nt o.dst env r) st) (hi' : Inv G st w) (ha : ARep G nt env a) (hn : Goes G nt K next) : o.wp P a w next Q := by
  have hy' := ht T y hy
  have hrx := ha.ev hx
  have el := evo_ok ha hlo
  have eh := evo_ok ha hhi
  have hexec : (execOp a.eval o).run P w = (do let r ← Instr.sliceAt T (a.eval x) (lo.map a.eval) (hi.map a.eval) none; pure (.value r) : Sem Next).run P w := by
    unfold execOp
    simp only [ho]
    rfl
  cases p <;> try (simp only [pCut] at hc; done)
  case str s =>
    have hu : P.underlying T = some .string := by
      cases hyk : y.k <;> rw [hyk] at hk <;> try exact hk.elim
      have := hy'.und; rw [hyk] at this; exact this
    have e1 := hrx.str_inv
    have hfin : ∀ l' h', (l' : Nat) ≤ h' → h' ≤ s.length → (Instr.sliceBounds false s.length s.length (lo.map a.eval) (hi.map a.eval) none).run P w = .ok (l', h', s.length) w → K (put nt o.dst env (.str ((s.take h').drop l'))) st → o.wp P a w next Q := by
      intro l' h' h1 h2 hb hk'
      refine wp_value (v := .string ⟨((s.take h').drop l').toArray⟩) (x := .str ((s.take h').drop l')) ?_ (.refl G) hi' ha (.str _) hk' hn
      rw [hexec]
      simp [Instr.sliceAt, run_underlying hu, Instr.slice, e1, size_mk, hb, extract_mk _ _ _ h1 h2]
    rcases el with ⟨rfl, el⟩ | ⟨xl, rfl, vl, el, rl⟩ <;> rcases eh with ⟨rfl, eh⟩ | ⟨xh, rfl, vh, eh, rh⟩
    · simp only [pCut] at hc
      exact hfin 0 s.length (by omega) (by omega) (by rw [el, eh]; simp [Instr.sliceBounds]) (by simpa using hc)
    · cases xh <;> try (simp only [pCut] at hc; done)
      rename_i k n
      simp only [pCut] at hc
      cases rh.int_inv
      exact hfin 0 n.toNat (by omega) (by omega) (by rw [el, eh]; simp [Instr.sliceBounds, run_bound k n s.length _ hc.1 hc.2.1]) (by simpa using hc.2.2)
    · cases xl <;> try (simp only [pCut] at hc; done)
      rename_i k n
      simp only [pCut] at hc
      cases rl.int_inv
      exact hfin n.toNat s.length (by omega) (by omega) (by rw [el, eh]; simp [Instr.sliceBounds, run_bound k n s.length _ hc.1 hc.2.1]) (by simpa using hc.2.2)
    · cases xl <;> cases xh <;> try (simp only [pCut] at hc; done)
      rename_i k n k' n'
      simp only [pCut] at hc
      cases rl.int_inv
      cases rh.int_inv
      exact hfin n.toNat n'.toNat (by omega) (by omega) (by rw [el, eh]; simp [Instr.sliceBounds, run_bound k' n' s.length _ (by omega) hc.2.2.1, run_bound k n n'.toNat _ hc.1 (by omega)]) (by simpa using hc.2.2.2)
  case list sz xs t =>
    obtain ⟨e, ye, hyk, hye, hsz⟩ : ∃ e ye, y.k = .slice e ∧ tt e = some ye ∧ ye.size = sz := by
      cases hyk : y.k <;> rw [hyk] at hk <;> try exact hk.elim
      exact hk
    have hu : P.underlying T = some (.slice e) := by have := hy'.und; rw [hyk] at this; exact this
    have hrs := (ht e ye hye).run_sizeOf w
    have hfin : ∀ l' h', (l' : Nat) ≤ h' → h' ≤ xs.length → (∀ c, xs.length ≤ c → (Instr.sliceBounds true xs.length c (lo.map a.eval) (hi.map a.eval) none).run P w = .ok (l', h', c) w) → K (put nt o.dst env (.list sz ((xs.take h').drop l') .no)) st → o.wp P a w next Q := by
      intro l' h' h1 h2 hb hk'
      rcases hrx.list_inv with ⟨rfl, e1⟩ | ⟨b, off, c, vs, _, e1, hcap, hs, hc1, hv, hd, _⟩
      · have hl0 : l' = 0 := by simp at h2; omega
        have hh0 : h' = 0 := by simpa using h2
        subst hl0 hh0
        refine wp_value (v := .slice none 0 0) (x := .list sz [] .no) ?_ (.refl G) hi' ha (.none _ _) (by simpa using hk') hn
        rw [hexec]
        have hb0 := hb 0 (by simp)
        simp only [List.length_nil] at hb0
        simp [Instr.sliceAt, run_underlying hu, Instr.slice, e1, hb0, hrs]
      · refine wp_value (x := .list sz ((xs.take h').drop l') .no) ?_ (.refl G) hi' ha (rep_cut h1 h2 hcap hs hc1 hv hd) hk' hn
        rw [hexec]
        simp only [Instr.sliceAt, Instr.slice, run_underlying hu, e1, hb c hcap, hrs, Sem.run_bind, Sem.run_pure, Result.andThen_ok, hsz]
        by_cases hcl : c = l' <;> simp [hcl]
    rcases el with ⟨rfl, el⟩ | ⟨xl, rfl, vl, el, rl⟩ <;> rcases eh with ⟨rfl, eh⟩ | ⟨xh, rfl, vh, eh, rh⟩
    · simp only [pCut] at hc
      exact hfin 0 xs.length (by omega) (by omega) (fun c hcc => by rw [el, eh]; simp [Instr.sliceBounds]) (by simpa using hc)
    · cases xh <;> try (simp only [pCut] at hc; done)
      rename_i k n
      simp only [pCut] at hc
      cases rh.int_inv
      exact hfin 0 n.toNat (by omega) (by omega) (fun c hcc => by rw [el, eh]; simp [Instr.sliceBounds, run_bound k n c _ hc.1 (by omega)]) (by simpa using hc.2.2)
    · cases xl <;> try (simp only [pCut] at hc; done)
      rename_i k n
      simp only [pCut] at hc
      cases rl.int_inv
      exact hfin n.toNat xs.length (by omega) (by omega) (fun c hcc => by rw [el, eh]; simp [Instr.sliceBounds, run_bound k n xs.length _ hc.1 hc.2.1]) (by simpa using hc.2.2)
    · cases xl <;> cases xh <;> try (simp only [pCut] at hc; done)
      rename_i k n k' n'
      simp only [pCut] at hc
      cases rl.int_inv
      cases rh.int_inv
      exact hfin n.toNat n'.toNat (by omega) (by omega) (fun c hcc => by rw [el, eh]; simp [Instr.sliceBounds, run_bound k' n' c _ (by omega) (by omega), run_bound k n n'.toNat _ hc.1 (by omega)]) (by simpa using hc.2.2.2)

theorem ok_fieldAddr (ht : TT P tt) {T : TypeId} {x : Operand} {f : Nat} (ho : o.op = .fieldAddr T x f) {y : TyI} {p : PV} (hy : tt T = some y) (hs : y.k = .struct) (hx : ev env x = some p)
    (hc : pFieldAddr y f p fun r => K (put nt o.dst env r) st) (hi : Inv G st w) (ha : ARep G nt env a) (hn : Goes G nt K next) : o.wp P a w next Q := by
  have hy' := ht T y hy
  obtain ⟨fs, hu⟩ := TK.struct_inv hy' hs
  have hrx := ha.ev hx
  have hrun : ∀ (b off o' n : Nat) (ag : Bool), a.eval x = .pointer (some ⟨b, off, none⟩) → y.flds[f]? = some (o', n, ag) → n ≠ 0 → (execOp a.eval o).run P w = .ok (.value (.pointer (some ⟨b, off + o', none⟩))) w := by
    intro b off o' n ag e1 e2 e3
    obtain ⟨fd, h1, h2, ⟨i, h3, h4⟩, _⟩ := hy'.fld hu e2
    unfold execOp
    simp only [ho]
    simp [Instr.fieldAt, run_underlying hu, h1, Instr.sureAddr, e1, fieldPlace, run_sizeOf' h3, h4, e3, h2, add_lit]
  unfold pFieldAddr at hc
  split at hc
  · rename_i r off o' n ag hf
    generalize hv : a.eval x = v at hrx
    cases hrx with
    | ref _ b _ hr => exact wp_value (hrun b off o' n ag hv hf hc.1) (.refl G) hi ha (.ref r b (off + o') hr) hc.2 hn
  · rename_i cs o' n hf
    generalize hv : a.eval x = v at hrx
    obtain ⟨hn0, hle, hk⟩ := hc
    cases hrx with
    | elem _ b off vs h1 hv2 hd =>
      refine wp_value (hrun b off o' n true hv hf hn0) (.refl G) hi ha (.elem _ b (off + o') ((vs.drop o').take n) ?_ ?_ ?_) hk hn
      · simp only [PV.cells]
        intro z hz
        exact h1 z (List.mem_of_mem_drop (List.mem_of_mem_take hz))
      · simp only [PV.cells] at hv2 ⊢
        exact (hv2.drop o').take n
      · rw [← List.drop_drop]
        refine (List.take_prefix _ _).trans (prefix_drop hd o' ?_)
        have := hv2.length
        simp only [PV.cells] at this
        omega
  · rename_i cs o' n hf
    generalize hv : a.eval x = v at hrx
    obtain ⟨hn0, c, hcs, hk⟩ := hc
    cases hrx with
    | elem _ b off vs h1 hv2 hd =>
      simp only [PV.cells] at hv2 h1
      obtain ⟨u, hu2, hru⟩ := hv2.get o' c hcs
      have hcc := h1 c (List.mem_of_getElem? hcs)
      have hc1 := (hru.cell1 hcc).2.2
      refine wp_value (hrun b off o' n false hv hf hn0) (.refl G) hi ha (.elem c b (off + o') [u] ?_ ?_ ?_) hk hn
      · rw [hc1]; simpa using hcc
      · rw [hc1]; exact .cons _ _ _ _ hru .nil
      · rw [← List.drop_drop]
        have hlt := (List.getElem?_eq_some_iff.1 hu2).1
        refine List.IsPrefix.trans ?_ (prefix_drop hd o' (by omega))
        refine ⟨vs.drop (o' + 1), ?_⟩
        have := (List.getElem?_eq_some_iff.1 hu2).2
        rw [← this]
        simp
  · exact hc.elim
theorem ok_field (ht : TT P tt) {T : TypeId} {x : Operand} {f : Nat} (ho : o.op = .field T x f) {y : TyI} {cs : List PV} {r : PV} (hy : tt T = some y) (hs : y.k = .struct) (hx : ev env x = some (.agg cs)) (hf : fldOf y f cs = some r)
    (hk : K (put nt o.dst env r) st) (hi : Inv G st w) (ha : ARep G nt env a) (hn : Goes G nt K next) : o.wp P a w next Q := by
  have hy' := ht T y hy
  obtain ⟨fs, hu⟩ := TK.struct_inv hy' hs
  have hrx := ha.ev hx
  unfold fldOf at hf
  split at hf
  case h_2 => cases hf
  rename_i off n ag hfl
  obtain ⟨fd, h1, h2, ⟨i, h3, h4⟩, h5, h6⟩ := hy'.fld hu hfl
  obtain ⟨hp1, hp2⟩ := run_part' h3 h6 (a.eval x).cells off w
  generalize hv : a.eval x = v at hrx hp1 hp2
  cases hrx with
  | agg _ vs hc hr =>
  simp only [Value.cells] at hp1 hp2
  have hvl := hr.length
  split at hf
  case isFalse => cases hf
  rename_i hle
  split at hf
  · rename_i hag
    injection hf with hf
    subst hf
    refine wp_value (v := .agg ((vs.drop off).take n).toArray) ?_ (.refl G) hi ha (.agg _ _ (fun z hz => hc z (List.mem_of_mem_drop (List.mem_of_mem_take hz))) ((hr.drop off).take n)) hk hn
    have := hp1 (by rw [h5]; exact hag)
    unfold execOp
    simp only [ho]
    simp [Instr.field, run_underlying hu, h1, asAgg, hv, h2, this, h4]
  · rename_i hag
    obtain ⟨u, hu2, hru⟩ := hr.get off r hf
    refine wp_value (v := u) ?_ (.refl G) hi ha hru hk hn
    have := hp2 (by rw [h5]; simpa using hag) u (by simpa using hu2)
    unfold execOp
    simp only [ho]
    simp [Instr.field, run_underlying hu, h1, asAgg, hv, h2, this]
theorem cells_at {xs : List PV} {sz : Nat} (h : ∀ x ∈ xs, x.cells.length = sz) {n : Nat} {z : PV} (hz : xs[n]? = some z) : z.cells <+: (cellsOf xs).drop (n * sz) := by
  rw [← flatMap_drop h]
  have hlt := (List.getElem?_eq_some_iff.1 hz).1
  have he : xs.drop n = z :: xs.drop (n + 1) := by
    rw [← (List.getElem?_eq_some_iff.1 hz).2]
    simp
  rw [he, cellsOf_cons]
  exact List.prefix_append _ _
theorem ok_indexAddr (ht : TT P tt) {T : TypeId} {x i : Operand} (ho : o.op = .indexAddr T x i) {y ye : TyI} {e : Nat} {xs : List PV} {t : Tk} {k : IntKind} {n : Int} {z : PV} (hy : tt T = some y) (hs : y.k = .slice e) (hye : tt e = some ye)
    (hx : ev env x = some (.list ye.size xs t)) (hii : ev env i = some (.int k n)) (h0 : 0 ≤ n) (hz : xs[n.toNat]? = some z)
    (hk : K (put nt o.dst env (.elem z)) st) (hi : Inv G st w) (ha : ARep G nt env a) (hn : Goes G nt K next) : o.wp P a w next Q := by
  have hy' := ht T y hy
  have hu : P.underlying T = some (.slice e) := by have := hy'.und; rw [hs] at this; exact this
  have hrs := (ht e ye hye).run_sizeOf w
  have hrx := ha.ev hx
  have hri := (ha.ev hii).int_inv
  have hlt : n.toNat < xs.length := (List.getElem?_eq_some_iff.1 hz).1
  rcases hrx.list_inv with ⟨rfl, _⟩ | ⟨b, off, c, vs, _, e1, hcap, hsz, hc1, hv, hd, _⟩
  · simp at hz
  · have hcl := cells_at hsz hz
    have hzm := List.mem_of_getElem? hz
    have hzc : ∀ q ∈ z.cells, q.isCell = true := fun q hq => hc1 q (List.mem_flatMap.2 ⟨z, hzm, hq⟩)
    have hlz : (vs.drop (n.toNat * ye.size)).take z.cells.length <+: (G.dat b).drop (off + n.toNat * ye.size) := by
      rw [← List.drop_drop]
      refine (List.take_prefix _ _).trans (prefix_drop hd _ ?_)
      have h1 := hv.length
      rw [cellsOf_length hsz] at h1
      have : n.toNat * ye.size ≤ xs.length * ye.size := Nat.mul_le_mul_right _ (by omega)
      omega
    have hrz : Reps G z.cells ((vs.drop (n.toNat * ye.size)).take z.cells.length) := by
      have := (hv.drop (n.toNat * ye.size)).take z.cells.length
      rwa [← List.prefix_iff_eq_take.1 hcl] at this
    refine wp_value ?_ (.refl G) hi ha (.elem z b (off + n.toNat * ye.size) _ hzc hrz hlz) hk hn
    unfold execOp
    simp only [ho]
    have hb : n < (xs.length : Int) := by omega
    simp [Instr.indexAt, hri, asIntOf, run_underlying hu, e1, h0, hb, hrs, add_lit]
theorem ok_index (ht : TT P tt) {T : TypeId} {x i : Operand} (ho : o.op = .index T x i) {y : TyI} {l : List UInt8} {k : IntKind} {n : Int} {c : UInt8} (hy : tt T = some y) (hs : y.k = .str)
    (hx : ev env x = some (.str l)) (hii : ev env i = some (.int k n)) (h0 : 0 ≤ n) (hz : l[n.toNat]? = some c)
    (hk : K (put nt o.dst env (.int .u8 (c.toNat : Int))) st) (hi : Inv G st w) (ha : ARep G nt env a) (hn : Goes G nt K next) : o.wp P a w next Q := by
  have hy' := ht T y hy
  have hu : P.underlying T = some .string := by have := hy'.und; rw [hs] at this; exact this
  have hrx := (ha.ev hx).str_inv
  have hri := (ha.ev hii).int_inv
  refine wp_value (v := .int .u8 (c.toNat : Int)) ?_ (.refl G) hi ha (.int _ _) hk hn
  have hlt := (List.getElem?_eq_some_iff.1 hz).1
  have hget : (⟨l.toArray⟩ : ByteArray)[n.toNat]? = some c := by
    rw [getElem?_pos _ _ (by simpa [size_mk] using hlt)]
    congr 1
    exact (List.getElem?_eq_some_iff.1 hz).2
  unfold execOp
  simp only [ho]
  simp only [Instr.index, hri, hrx, asIntOf, Sem.run_bind, Sem.run_pure, Result.andThen_ok, run_underlying hu, if_pos h0, hget]
end
end Go.Proofs.YtolhbjfaahcekaaDoor
end
section
/- Every operation; a region in its text's order; a function's body. -/
set_option linter.unusedVariables false
set_option linter.unusedSimpArgs false
namespace Go.Proofs.YtolhbjfaahcekaaDoor

section
variable {P : Program} {tt : TTab} {nt : Nat} {o : Oper} {env : Env} {st : St} {G : Gh} {a : Act} {w : World}
variable {K : Env → St → Prop} {next : Act → World → Prop} {Q : Exit → Act → World → Prop}

theorem ok_binOp {op : BinOp} {T Y : TypeId} {x y : Operand} (ho : o.op = .binOp op T x y Y) {p q : PV} (hx : ev env x = some p) (hy : ev env y = some q) (hb : pBin op p q fun r => K (put nt o.dst env r) st)
    (hi : Inv G st w) (ha : ARep G nt env a) (hn : Goes G nt K next) : o.wp P a w next Q := by
  have hrx := ha.ev hx
  have hry := ha.ev hy
  obtain ⟨r, z, h1, h2, h3⟩ := run_pBin (P := P) (t := T) (w := w) hb hrx hry
  refine wp_value (v := z) ?_ (.refl G) hi ha h2 h3 hn
  have hg : (eqGuard op T x y (a.eval x) (a.eval y)).run P w = .ok () w := by
    unfold pBin at hb
    split at hb
    · rw [hrx.int_inv, hry.int_inv]
      unfold eqGuard
      split <;> simp
    · rw [hrx.str_inv, hry.str_inv]
      unfold eqGuard
      split <;> simp
    · exact hb.elim
  unfold execOp
  simp only [ho, Sem.run_bind, hg, h1, Result.andThen_ok, Sem.run_pure]
theorem ok_eqAgg {op : BinOp} {T Y : TypeId} {x y : Operand} (ho : o.op = .binOp op T x y Y) {z xs ys : List PV} {r : Bool} (hl : EqL P T z) (hx : ev env x = some (.agg xs)) (hy : ev env y = some (.agg ys)) (he : eqCells z xs ys = some r)
    (hk : op = .eql ∧ K (put nt o.dst env (.bool r)) st ∨ op = .neq ∧ K (put nt o.dst env (.bool (!r))) st) (hi : Inv G st w) (ha : ARep G nt env a) (hn : Goes G nt K next) : o.wp P a w next Q := by
  have hrx := ha.ev hx
  have hry := ha.ev hy
  generalize hvx : a.eval x = vx at hrx
  generalize hvy : a.eval y = vy at hry
  cases hrx with
  | agg _ vs _ h1 =>
  cases hry with
  | agg _ us _ h2 =>
  have heq := hl.eql G xs ys vs us r w he h1 h2
  have hg : (eqGuard op T x y (.agg vs.toArray) (.agg us.toArray)).run P w = .ok () w := run_eqGuard_agg w op T x y _ _ hl.guard
  rcases hk with ⟨rfl, hk⟩ | ⟨rfl, hk⟩
  · refine wp_value (v := .bool r) ?_ (.refl G) hi ha (.bool r) hk hn
    unfold execOp
    simp only [ho, hvx, hvy, Sem.run_bind, hg, Result.andThen_ok, run_eql_struct, heq, Sem.run_pure]
  · refine wp_value (v := .bool (!r)) ?_ (.refl G) hi ha (.bool _) hk hn
    unfold execOp
    simp only [ho, hvx, hvy, Sem.run_bind, hg, Result.andThen_ok, run_neq_struct, heq, Sem.run_pure]
theorem nilness_slice {e : Nat} {n : Bool} {v : Value} : ∀ {a : PV}, nilness (.slice e) a = some n → Rep G a v → ∃ ad l c, v = .slice ad l c ∧ n = ad.isNone
  | .list sz [] .nil, h, hr => by
    cases h
    cases hr with
    | none => exact ⟨none, 0, 0, rfl, rfl⟩
    | list _ _ _ b o c vs ht => exact absurd rfl ht
  | .list sz (x :: xs) t, h, hr => by
    cases h
    cases hr
    exact ⟨_, _, _, rfl, rfl⟩
  | .list sz [] .no, h, _ => by cases h
  | .list sz [] (.own k), h, _ => by cases h
  | .int _ _, h, _ => by cases h
  | .bool _, h, _ => by cases h
  | .str _, h, _ => by cases h
  | .ref _ _, h, _ => by cases h
  | .elem _, h, _ => by cases h
  | .agg _, h, _ => by cases h
  | .tup _, h, _ => by cases h
  | .clo _ _ _, h, _ => by cases h
  | .val _, h, _ => by cases h
theorem nilness_ptr {e : Nat} {n : Bool} {v : Value} {a : PV} (h : nilness (.other (some e)) a = some n) (hr : Rep G a v) : ∃ ad, v = .pointer ad ∧ n = ad.isNone := by
  cases a with
  | ref r o => cases h; cases hr; exact ⟨_, rfl, rfl⟩
  | elem x => cases h; cases hr; exact ⟨_, rfl, rfl⟩
  | val u =>
    cases hr
    unfold nilness at h
    split at h <;> first | cases h; done | skip
    all_goals (rename_i h1; first | (cases h1; done) | (rename_i h2; cases h2; done) | skip)
    all_goals (cases h)
    all_goals first | (rename_i h3; cases h3; exact ⟨_, rfl, rfl⟩) | (exact ⟨_, rfl, rfl⟩) | simp_all
  | _ => cases h
theorem ok_nil {op : BinOp} {T Y : TypeId} {x y : Operand} (ho : o.op = .binOp op T x y Y) {yt : TyI} (ht : TOk P T yt) {p q : PV} {r : Bool} (hx : ev env x = some p) (hy : ev env y = some q) (hb : fNil op yt.k p q = some r)
    (hk : K (put nt o.dst env (.bool r)) st) (hi : Inv G st w) (ha : ARep G nt env a) (hn : Goes G nt K next) : o.wp P a w next Q := by
  have hrx := ha.ev hx
  have hry := ha.ev hy
  generalize hvx : a.eval x = vx at hrx
  generalize hvy : a.eval y = vy at hry
  have hrun : (eqGuard op T x y vx vy).run P w = .ok () w ∧ (binOp op T vx vy).run P w = .ok (.bool r) w := by
    have hu := ht.und
    unfold fNil at hb
    split at hb <;> try (cases hb; done)
    rename_i hc
    split at hb <;> try (cases hb; done)
    rename_i n hn'
    generalize yt.k = kk at hu hc hn'
    cases kk with
    | slice e =>
      have hvy' : vy = .slice none 0 0 := by
        cases q with
        | list sz xs t =>
          cases xs with
          | nil =>
            cases t with
            | nil =>
              cases hry with
              | none => rfl
              | list _ _ _ b o c vs ht' => exact absurd rfl ht'
            | _ => cases hc
          | cons => cases hc
        | _ => cases hc
      subst hvy'
      obtain ⟨ad, l, c, rfl, rfl⟩ := nilness_slice hn' hrx
      split at hb <;> cases hb
      · exact ⟨by simp [eqGuard], run_eql_slice_nil w T e ad l c hu⟩
      · exact ⟨by simp [eqGuard], run_neq_slice_nil w T e ad l c hu⟩
    | other oe =>
      obtain ⟨e, rfl⟩ : ∃ e, oe = some e := by
        cases oe with
        | none => cases q with
          | val u => cases u <;> cases hc
          | _ => cases hc
        | some e => exact ⟨e, rfl⟩
      have hvy' : vy = .pointer none := by
        cases q with
        | val u =>
          cases hry
          unfold isNilC at hc
          split at hc <;> first | (cases hc; done) | skip
          all_goals (first | rfl | simp_all)
        | _ => cases hc
      subst hvy'
      obtain ⟨ad, rfl, rfl⟩ := nilness_ptr hn' hrx
      have hp : P.underlying T = some (.pointer (P.pointee T)) := by
        have : P.underlying T = some (.pointer e) := hu
        rw [this]
        simp [Program.pointee, this]
      split at hb <;> cases hb
      · exact ⟨by simp [eqGuard], run_eql_pointer_nil w T ad hp⟩
      · exact ⟨by simp [eqGuard], run_neq_pointer_nil w T ad hp⟩
    | _ => cases hc
  refine wp_value (v := .bool r) ?_ (.refl G) hi ha (.bool r) hk hn
  unfold execOp
  simp only [ho, hvx, hvy, Sem.run_bind, hrun.1, hrun.2, Result.andThen_ok, Sem.run_pure]
theorem ok_max {c : Call} (ho : o.op = .call c) (hcb : c.callee = .builtin .max) {x y : Operand} {k : IntKind} {p q : Int} (hca : c.args = #[x, y]) (hx : ev env x = some (.int k p)) (hy : ev env y = some (.int k q))
    (hk : K (put nt o.dst env (.int k (if q > p then q else p))) st) (hi : Inv G st w) (ha : ARep G nt env a) (hn : Goes G nt K next) : o.wp P a w next Q := by
  refine wp_value (v := .int k (if q > p then q else p)) ?_ (.refl G) hi ha (.int _ _) hk hn
  unfold execOp
  simp only [ho, resolve, hcb, hca, Sem.run_bind, Sem.run_pure, Result.andThen_ok, invoke, builtin]
  have h1 := (ha.ev hx).int_inv
  have h2 := (ha.ev hy).int_inv
  simp [h1, h2, Builtin.max_, Builtin.max2]
theorem ok_append (ht : TT P tt) {c : Call} (ho : o.op = .call c) (hcb : c.callee = .builtin .append) {T : TypeId} {s x : Operand} {y ye : TyI} {e : TypeId} {xs ys : List PV} {k : Nat} {t : Tk} (hct : c.argTypes = #[T, T]) (hca : c.args = #[s, x])
    (hy : tt T = some y) (hs : y.k = .slice e) (hye : tt e = some ye) (h0 : 0 < ye.size) (hes : ev env s = some (.list ye.size xs (.own k))) (hex : ev env x = some (.list ye.size ys t)) (hl : st.len[k]? = some xs.length)
    (hfit : (xs.length + ys.length) * ye.bytes ≤ 140737488355328) (hmax : xs.length + ys.length ≤ maxLen) (hk : K (put nt o.dst env (.list ye.size (xs ++ ys) (.own k))) { st with len := st.len.set k (xs.length + ys.length) })
    (hi : Inv G st w) (ha : ARep G nt env a) (hn : Goes G nt K next) : o.wp P a w next Q := by
  obtain ⟨v', w', G', h1, h2, h3, h4⟩ := append_ok (ty := o.type) (ht T y hy) hs (ht e ye hye) h0 hi (ha.ev hes) (ha.ev hex) hl hfit hmax
  refine wp_value (v := v') ?_ h2 h3 ha h4 hk hn
  unfold execOp
  simp only [ho, resolve, hcb, hca, hct, Sem.run_bind, Sem.run_pure, Result.andThen_ok, invoke, builtin]
  simp [h1]

theorem pOp_ok (ht : TT P tt) {ow : List Nat} (h : pOp P tt ow nt o env st K) (hi : Inv G st w) (ha : ARep G nt env a) (hn : Goes G nt K next) : o.wp P a w next Q := by
  unfold pOp at h
  split at h
  · -- move
    rename_i x ho
    obtain ⟨p, h1, h2⟩ := h
    exact wp_value (v := a.eval x) (by unfold execOp; simp only [ho, Sem.run_pure]) (.refl G) hi ha (ha.ev h1) h2 hn
  · -- assign
    rename_i x ho
    obtain ⟨p, h1, h2⟩ := h
    exact wp_value (v := a.eval x) (by unfold execOp; simp only [ho, Sem.run_pure]) (.refl G) hi ha (ha.ev h1) h2 hn
  · -- pick
    rename_i c x y ho
    obtain ⟨t, h1, h2⟩ := h
    have hc := (ha.ev h1).bool_inv
    have hrun : (execOp a.eval o).run P w = .ok (.value (if t then a.eval x else a.eval y)) w := by
      unfold execOp
      simp only [ho, hc, asBool, Sem.run_bind, Sem.run_pure, Result.andThen_ok]
    split at h2
    · rename_i p q hx hy
      refine wp_value (x := .bool (bif t then p else q)) hrun (.refl G) hi ha ?_ h2 hn
      rw [(ha.ev hx).bool_inv, (ha.ev hy).bool_inv]
      cases t <;> exact .bool _
    · cases t with
      | true =>
        obtain ⟨z, hz, hk⟩ := h2.1 rfl
        exact wp_value hrun (.refl G) hi ha (ha.ev hz) hk hn
      | false =>
        obtain ⟨z, hz, hk⟩ := h2.2 rfl
        exact wp_value hrun (.refl G) hi ha (ha.ev hz) hk hn
  · rename_i T ho
    obtain ⟨y, h1, h2⟩ := h
    exact ok_alloc ht ho h1 h2 hi ha hn
  · rename_i T x ho
    obtain ⟨p, h1, h2, h3⟩ := h
    exact ok_box ho h1 h2 h3 hi ha hn
  · rename_i T ps ho
    obtain ⟨y, xs, cs, h1, h2, h3, h4, h5⟩ := h
    exact ok_build ht ho h1 h2 h3 h4 h5 hi ha hn
  · rename_i T n ps ho
    obtain ⟨y, e, ye, ps', xs, h1, h2, h3, h4, h5, h6, h7, h8, h9, h10⟩ := h
    exact ok_buildSlice ht ho h1 h2 h3 h4 h5 h6 h7 h8 h9 h10 hi ha hn
  · -- load
    rename_i T x ho
    obtain ⟨p, y, r, h1, h2, h3, h4⟩ := h
    obtain ⟨u, h5, h6⟩ := ld_ok (ht T y h2) hi (ha.ev h1) h3
    refine wp_value (v := u) ?_ (.refl G) hi ha h6 h4 hn
    unfold execOp
    simp only [ho, Sem.run_bind, h5, Result.andThen_ok, Sem.run_pure]
  · -- store
    rename_i T x v ho
    obtain ⟨p, y, r, st', h1, h2, h3, h4, h5⟩ := h
    obtain ⟨w', h6, h7⟩ := st_ok (ht T y h2) hi (ha.ev h1) (ha.ev h3) h4
    refine wp_skips ?_ (.refl G) h7 ha h5 hn
    unfold execOp
    simp only [ho, Sem.run_bind, h6, Result.andThen_ok, Sem.run_pure]
  · -- nilCheck
    rename_i x ho
    obtain ⟨p, h1, h2, h3⟩ := h
    have hr := ha.ev h1
    refine wp_value (v := a.eval x) ?_ (.refl G) hi ha hr h3 hn
    unfold execOp
    simp only [ho]
    generalize a.eval x = v at hr ⊢
    cases p <;> try (simp only [pNil] at h2; cases h2; done)
    · cases hr; simp
    · cases hr; simp
    · rename_i fn fs cs
      cases fn <;> try (simp only [pNil] at h2; cases h2; done)
      cases hr; simp
  · rename_i op T x y Y ho
    rcases h with ⟨p, q, h1, h2, h3⟩ | ⟨yt, xs, ys, r, h1, h2, h3, h4, h5, h6⟩ | ⟨p, q, yt, r, h1, h2, h3, h4, h5⟩
    · exact ok_binOp ho h1 h2 h3 hi ha hn
    · exact ok_eqAgg ho ((ht T yt h1).eql h2) h3 h4 h5 h6 hi ha hn
    · exact ok_nil ho (ht T yt h3) h1 h2 h4 h5 hi ha hn
  · -- unOp
    rename_i op T x ho
    split at h
    · rename_i b hx
      refine wp_value (v := .bool (!b)) ?_ (.refl G) hi ha (.bool _) h hn
      unfold execOp
      simp only [ho, (ha.ev hx).bool_inv, Op.unary, Sem.run_bind, Sem.run_pure, Result.andThen_ok]
    · rename_i k n hx
      refine wp_value (v := .int k (k.wrap (0 - n))) ?_ (.refl G) hi ha (.int _ _) h hn
      unfold execOp
      simp only [ho, (ha.ev hx).int_inv, Op.unary, Op.intArith, Sem.run_bind, Sem.run_pure, Result.andThen_ok]
    · exact h.elim
  · -- convert
    rename_i S D x ho
    obtain ⟨ys, yd, p, h1, h2, h3, h4⟩ := h
    have hr := ha.ev h3
    obtain ⟨ds, hds⟩ := Option.isSome_iff_exists.1 (ht S ys h1).isSm
    unfold pConv at h4
    split at h4
    · rename_i k n k' hk
      have hd : P.underlying D = some (.int k') := by have := (ht D yd h2).und; rw [hk] at this; exact this
      refine wp_value (v := .int k' (k'.wrap n)) ?_ (.refl G) hi ha (.int _ _) h4 hn
      unfold execOp
      simp only [ho, hr.int_inv, convert, run_underlying hds, run_underlying hd, Conv.intToInt, Sem.run_bind, Sem.run_pure, Result.andThen_ok]
    · rename_i l hk
      have hd : P.underlying D = some .string := by have := (ht D yd h2).und; rw [hk] at this; exact this
      refine wp_value (v := .string ⟨l.toArray⟩) ?_ (.refl G) hi ha (.str _) h4 hn
      unfold execOp
      simp only [ho, hr.str_inv, convert, run_underlying hds, run_underlying hd, Sem.run_bind, Sem.run_pure, Result.andThen_ok]
    · exact h4.elim
  · -- makeFunc
    rename_i fn fs cs ho
    obtain ⟨us, vs, h1, h2, h3⟩ := h
    refine wp_value (v := .func fn (fs.map a.eval) (cs.map a.eval)) ?_ (.refl G) hi ha ?_ h3 hn
    · unfold execOp
      simp only [ho, Instr.makeFunc, Sem.run_bind, Sem.run_pure, Result.andThen_ok]
    · have e1 : fs.map a.eval = (fs.toList.map a.eval).toArray := by rw [← Array.toList_map]
      have e2 : cs.map a.eval = (cs.toList.map a.eval).toArray := by rw [← Array.toList_map]
      rw [e1, e2]
      exact .clo fn us vs _ _ (ha.evs h1) (ha.evs h2)
  · rename_i T x lo hi' ho
    obtain ⟨y, p, l, hh, h1, h2, h3, h4, h5, h6⟩ := h
    exact ok_slice ht ho h1 h2 h3 h4 h5 h6 hi ha hn
  · rename_i T x f ho
    obtain ⟨y, p, h1, h2, h3, h4⟩ := h
    exact ok_fieldAddr ht ho h1 h2 h3 h4 hi ha hn
  · rename_i T x f ho
    obtain ⟨y, cs, r, h1, h2, h3, h4, h5⟩ := h
    exact ok_field ht ho h1 h2 h3 h4 h5 hi ha hn
  · rename_i T x i ho
    obtain ⟨y, e, ye, xs, t, k, n, z, h1, h2, h3, h4, h5, h6, h7, h8⟩ := h
    exact ok_indexAddr ht ho h1 h2 h3 h4 h5 h6 h7 h8 hi ha hn
  · rename_i T x i ho
    obtain ⟨y, l, k, n, c, h1, h2, h3, h4, h5, h6, h7⟩ := h
    exact ok_index ht ho h1 h2 h3 h4 h5 h6 h7 hi ha hn
  · -- extract
    rename_i t i ho
    obtain ⟨cs, x, h1, h2, h3⟩ := h
    have hr := ha.ev h1
    generalize hv : a.eval t = v at hr
    cases hr with
    | tup _ vs hr =>
    obtain ⟨u, hu, hru⟩ := hr.get i x h2
    refine wp_value (v := u) ?_ (.refl G) hi ha hru h3 hn
    unfold execOp
    have hu' : (vs.toArray)[i]? = some u := by simpa using hu
    simp only [ho, hv, Instr.extract, hu', Sem.run_bind, Sem.run_pure, Result.andThen_ok]
  · -- call
    rename_i c ho
    split at h
    · rename_i f hcf
      obtain ⟨fn, fs, cs, ags, h1, h2, h3⟩ := h
      have hr := ha.ev h1
      have hra := ha.evs h2
      generalize hv : a.eval f = v at hr
      cases hr with
      | clo _ _ _ us vs hu hc =>
      refine wp_enters (f := fn) (args := fs ++ ags ++ cs) (vs := us ++ c.args.toList.map a.eval ++ vs) ?_ hi ha ((hu.append hra).append hc) h3 hn
      unfold execOp
      simp only [ho, resolve, hcf, hv, Deferred.ofValue, Sem.run_bind, Sem.run_pure, Result.andThen_ok, invoke]
      congr 2
      apply Array.ext'
      simp
    · -- len
      rename_i hcl
      obtain ⟨T, x, y, p, h1, h2, h3, h4, h5⟩ := h
      have hr := ha.ev h4
      have hlen : ∀ n : Int, (Builtin.len_ #[T] o.type #[a.eval x]).run P w = .ok (.int .i64 n) w → K (put nt o.dst env (.int .i64 n)) st → o.wp P a w next Q := by
        intro n e1 e2
        refine wp_value (v := .int .i64 n) ?_ (.refl G) hi ha (.int _ _) e2 hn
        unfold execOp
        simp only [ho, resolve, hcl, h1, h2, Sem.run_bind, Sem.run_pure, Result.andThen_ok, invoke, builtin]
        simp [e1]
      split at h5
      · rename_i l hk
        have hu : P.underlying T = some .string := by have := (ht T y h3).und; rw [hk] at this; exact this
        exact hlen _ (by simp [Builtin.len_, run_underlying hu, hr.str_inv, goInt, size_mk]) h5
      · rename_i e sz xs t hk
        have hu : P.underlying T = some (.slice e) := by have := (ht T y h3).und; rw [hk] at this; exact this
        refine hlen _ ?_ h5
        rcases hr.list_inv with ⟨rfl, e1⟩ | ⟨b, off, cc, vs, _, e1, _⟩ <;> simp [Builtin.len_, run_underlying hu, e1, goInt]
      · exact h5.elim
    · rename_i hca
      obtain ⟨T, s, x, y, e, ye, xs, ys, k, t, h1, h2, h3, h4, h5, h6, h7, h8, h9, h10, h11, h12⟩ := h
      exact ok_append ht ho hca h1 h2 h3 h4 h5 h6 h7 h8 h9 h10 h11 h12 hi ha hn
    · rename_i hcm
      obtain ⟨x, y, k, p, q, h1, h2, h3, h4⟩ := h
      exact ok_max ho hcm h1 h2 h3 h4 hi ha hn
    · exact h.elim
  · exact h.elim
end
end Go.Proofs.YtolhbjfaahcekaaDoor
end
section
/- A region in its text's order; a function's body. -/
set_option linter.unusedVariables false
set_option linter.unusedSimpArgs false
namespace Go.Proofs.YtolhbjfaahcekaaDoor

def gdOf (ops : Array Oper) (j : Nat) : Option Tmp := (ops.toList[j]?).bind (·.dst)
def isCall : Op → Bool
  | .call c => match c.callee with
    | .value _ => true
    | _ => false
  | _ => false
/-- The operations from place n on. -/
def PO (P : Program) (nt : Nat) (ops : Array Oper) (n : Nat) (env : Env) (st : St) (K : Env → St → Prop) : Prop :=
  ∀ G a w (Q : Exit → Act → World → Prop), Inv G st w → ARep G nt env a → Goes G nt K (Q .normal) → wpOps P ops Q (List.range' n (ops.size - n)) a w
/-- What a guard finds: is the operation wanted? -/
def isBoolV : Value → Bool
  | .bool _ => true
  | _ => false
def gval (want : Bool) : PV → Option Bool
  | .bool b => some (b == want)
  | .val v => match isBoolV v with
    | true => none
    | false => some false
  | _ => none
theorem gval_undef (want : Bool) : gval want (.val undef) = some false := rfl
theorem gval_bool (want b : Bool) : gval want (.bool b) = some (b == want) := rfl
theorem gval_ok {G : Gh} {want r : Bool} {x : PV} {v : Value} (h : gval want x = some r) (hv : Rep G x v) : ((match v with | .bool b => some b | _ => none) == some want) = r := by
  unfold gval at h
  split at h
  · cases hv.bool_inv
    exact Option.some.inj h
  · split at h
    · cases h
    · rename_i hb
      cases hv
      cases h
      cases ‹Value› <;> first | rfl | cases hb
  · cases h
/-- Operations, one behind the other, up to a call. -/
def pOps (P : Program) (tt : TTab) (ow : List Nat) (nt : Nat) (ops : Array Oper) (n : Nat) : List Oper → Env → St → (Env → St → Prop) → Prop
  | [], env, st, K => K env st
  | o :: r, env, st, K => match o.guard with
    | none => if isCall o.op then pOp P tt ow nt o env st fun env st => PO P nt ops (n + 1) env st K else pOp P tt ow nt o env st fun env st => pOps P tt ow nt ops (n + 1) r env st K
    | some (j, want) => ∃ d x b, gdOf ops j = some d ∧ eget env d = some x ∧ gval want x = some b ∧
        (b = true → if isCall o.op then pOp P tt ow nt o env st fun env st => PO P nt ops (n + 1) env st K else pOp P tt ow nt o env st fun env st => pOps P tt ow nt ops (n + 1) r env st K) ∧
        (b = false → pOps P tt ow nt ops (n + 1) r (put nt o.dst env (.val undef)) st K)

section
variable {P : Program} {tt : TTab} {nt : Nat}
theorem pOps_ok (ht : TT P tt) {ow : List Nat} (ops : Array Oper) (K : Env → St → Prop) : ∀ (r : List Oper) (n : Nat), ops.toList.drop n = r → ∀ (env : Env) (st : St), pOps P tt ow nt ops n r env st K → PO P nt ops n env st K
  | [], n, he, env, st, h, G, a, w, Q, hi, ha, hq => by
    have hn : ops.size - n = 0 := by
      have := congrArg List.length he
      simp at this
      omega
    simp only [hn, List.range'_zero, wpOps]
    exact hq G env st a w (.refl G) hi ha h
  | o :: r, n, he, env, st, h, G, a, w, Q, hi, ha, hq => by
    have hlen := congrArg List.length he
    simp at hlen
    have hget : ops[n]? = some o := by
      rw [← Array.getElem?_toList]
      have : (ops.toList.drop n)[0]? = some o := by rw [he]; rfl
      simpa using this
    have hdrop : ops.toList.drop (n + 1) = r := by
      have : (ops.toList.drop n).drop 1 = r := by rw [he]; rfl
      rwa [List.drop_drop] at this
    have hsz : ops.size - n = (ops.size - (n + 1)) + 1 := by omega
    rw [hsz]
    simp only [List.range'_succ, wpOps, hget]
    have ih := pOps_ok ht (ow := ow) ops K r (n + 1) hdrop
    have hgoes : (if isCall o.op then pOp P tt ow nt o env st fun env st => PO P nt ops (n + 1) env st K else pOp P tt ow nt o env st fun env st => pOps P tt ow nt ops (n + 1) r env st K) → o.wp P a w (wpOps P ops Q (List.range' (n + 1) (ops.size - (n + 1)))) Q := by
      intro h2
      have h3 : pOp P tt ow nt o env st (fun env st => pOps P tt ow nt ops (n + 1) r env st K) ∨ pOp P tt ow nt o env st (fun env st => PO P nt ops (n + 1) env st K) := by
        split at h2
        · exact .inr h2
        · exact .inl h2
      rcases h3 with h3 | h3
      · refine pOp_ok ht h3 hi ha ?_
        intro G' env' st' a' w' k1 k2 k3 k4
        exact ih env' st' k4 G' a' w' Q k2 k3 fun G2 env2 st2 a2 w2 m1 m2 m3 m4 => hq G2 env2 st2 a2 w2 (k1.trans m1) m2 m3 m4
      · refine pOp_ok ht h3 hi ha ?_
        intro G' env' st' a' w' k1 k2 k3 k4
        exact k4 G' a' w' Q k2 k3 fun G2 env2 st2 a2 w2 m1 m2 m3 m4 => hq G2 env2 st2 a2 w2 (k1.trans m1) m2 m3 m4
    simp only [pOps] at h
    split at h
    · rename_i hg
      rw [if_pos (by simp [Region.wanted, hg])]
      exact .inl (hgoes h)
    · rename_i j want hg
      obtain ⟨d, x, b, h1, h2, h5, h3, h4⟩ := h
      have hw : Region.wanted o (yielded ops a.tmps) = b := by
        obtain ⟨v, hv1, hv2⟩ := ha.get d _ h2
        have hd : (ops[j]?).bind (·.dst) = some d := by rw [← Array.getElem?_toList]; exact h1
        have := gval_ok h5 hv2
        simp only [Region.wanted, hg, yielded, hd, Option.bind_some, hv1]
        rw [← this]
        cases v <;> rfl
      cases b with
      | true =>
        rw [if_pos hw]
        exact .inl (hgoes (h3 rfl))
      | false =>
        rw [if_neg (by rw [hw]; simp)]
        exact ih _ st (h4 rfl) G _ w Q hi (ha.put (.val undef) o.dst) hq
/-- Go on from place n. -/
theorem PO.run (ht : TT P tt) (ow : List Nat) {ops : Array Oper} {n : Nat} {env : Env} {st : St} {K : Env → St → Prop} (h : pOps P tt ow nt ops n (ops.toList.drop n) env st K) : PO P nt ops n env st K := pOps_ok ht ops K _ n rfl env st h
theorem PO.mono {ops : Array Oper} {n : Nat} {env : Env} {st : St} {K K' : Env → St → Prop} (h : PO P nt ops n env st K) (hk : ∀ env st, K env st → K' env st) : PO P nt ops n env st K' :=
  fun G a w Q hi ha hq => h G a w Q hi ha fun G' env' st' a' w' h1 h2 h3 h4 => hq G' env' st' a' w' h1 h2 h3 (hk _ _ h4)
/-- Go on from less of the temporaries. -/
theorem PO.less {ops : Array Oper} {n : Nat} {env : Env} {st : St} {K : Env → St → Prop} (env' : Env) (hs : Sub env env') (h : PO P nt ops n env' st K) : PO P nt ops n env st K :=
  fun G a w Q hi ha hq => h G a w Q hi (ha.sub hs) hq
/-- Go on from what is left when some of it is forgotten. -/
theorem PO.forget {ops : Array Oper} {n : Nat} {env : Env} {st : St} {K : Env → St → Prop} (env' : Env) (st' : St) (hs : Sub env env') (hl : Left st st') (hc : Env.clean st'.box.length st'.len.length env' = true)
    (hb : st.box.length ≤ st'.box.length) (hm : st.len.length ≤ st'.len.length) (h : PO P nt ops n env' st' K) : PO P nt ops n env st K :=
  fun G a w Q hi ha hq => h _ a w Q (hi.trunc hl) ((ha.sub hs).trunc hc) fun G' env2 st2 a2 w2 h1 h2 h3 h4 => hq G' env2 st2 a2 w2 (((Gh.le.refl G).trunc hi hb hm).trans h1) h2 h3 h4
theorem PW.ofPO {id : Nat} {ops : Array Oper} {Q : Exit → Env → St → Prop} {env : Env} {st : St} (h : PO P nt ops 0 env st (Q .normal)) : PW P nt (.region id ops false) Q env st := by
  intro G a w hi ha
  refine wp_region ?_
  have := h G a w (PostE G nt Q) hi ha fun G' env' st' a' w' h1 h2 h3 h4 => ⟨G', env', st', h1, h2, h3, h4⟩
  rw [List.range_eq_range']
  simpa using this
theorem PW.region (ht : TT P tt) (ow : List Nat) {id : Nat} {ops : Array Oper} {Q : Exit → Env → St → Prop} {env : Env} {st : St} (h : pOps P tt ow nt ops 0 ops.toList env st (Q .normal)) : PW P nt (.region id ops false) Q env st :=
  PW.ofPO (PO.run ht ow (by simpa using h))

/-! ### A function's body -/
def argsEnv (n : Nat) : List PV → Env
  | [] => []
  | x :: xs => (n, x) :: argsEnv (n + 1) xs
theorem argsEnv_get {n : Nat} : ∀ {xs : List PV} {i : Nat} {x : PV}, eget (argsEnv n xs) i = some x → n ≤ i ∧ xs[i - n]? = some x
  | [], i, x, h => by simp [argsEnv, eget] at h
  | y :: ys, i, x, h => by
    simp only [argsEnv, eget] at h
    split at h
    · rename_i hi; subst hi; injection h with h; subst h; simp
    · rename_i hi
      obtain ⟨h1, h2⟩ := argsEnv_get h
      refine ⟨by omega, ?_⟩
      rw [show i - n = (i - (n + 1)) + 1 from by omega]
      simpa using h2
def resOne (tt : TTab) (env : Env) (st : St) : ResultVar → Option PV
  | .tmp t => eget env t
  | .cell a t => match eget env a, tt t with
    | some p, some y => ldPV y st p
    | _, _ => none
def resAll (tt : TTab) (env : Env) (st : St) : List ResultVar → Option (List PV)
  | [] => some []
  | r :: rs => match resOne tt env st r, resAll tt env st rs with
    | some x, some xs => some (x :: xs)
    | _, _ => none
def resPV : List PV → PV
  | [x] => x
  | xs => .tup xs
def resSem (tmps : Array Value) : ResultVar → Sem Value
  | .tmp t => pure (tmps.getD t undef)
  | .cell b t => do loadVar t (← asAddr (tmps.getD b undef))
theorem results_eq (fn : Func) (tmps : Array Value) : results fn tmps = (do let vs ← fn.results.mapM (resSem tmps); pure (if h : vs.size = 1 then vs[0] else .tuple vs)) := by
  unfold results
  congr
theorem resOne_ok (ht : TT P tt) {env : Env} {st : St} {G : Gh} {a : Act} {w : World} (hi : Inv G st w) (ha : ARep G nt env a) {r : ResultVar} {x : PV} (h : resOne tt env st r = some x) :
    ∃ v, (resSem a.tmps r).run P w = .ok v w ∧ Rep G x v := by
  cases r with
  | tmp t =>
    obtain ⟨v, h1, h2⟩ := ha.get t x h
    exact ⟨v, by simp [resSem, Array.getD_eq_getD_getElem?, h1], h2⟩
  | cell b t =>
    simp only [resOne] at h
    split at h
    · rename_i p y hp hy
      obtain ⟨v, h1, h2⟩ := ha.get b p hp
      obtain ⟨u, h3, h4⟩ := ld_ok (ht t y hy) hi h2 h
      refine ⟨u, ?_, h4⟩
      have hpv : ∃ ad, v = .pointer (some ad) := by
        unfold ldPV at h
        split at h
        · cases h2; exact ⟨_, rfl⟩
        · cases h2; exact ⟨_, rfl⟩
        · cases h
      obtain ⟨ad, rfl⟩ := hpv
      simpa [resSem, Array.getD_eq_getD_getElem?, h1, asAddr, Instr.loadAt, Instr.sureAddr] using h3
    · cases h
theorem resAll_ok (ht : TT P tt) {env : Env} {st : St} {G : Gh} {a : Act} {w : World} (hi : Inv G st w) (ha : ARep G nt env a) : ∀ {rs : List ResultVar} {xs : List PV}, resAll tt env st rs = some xs →
    ∃ vs, (rs.mapM (resSem a.tmps)).run P w = .ok vs w ∧ Reps G xs vs
  | [], xs, h => by injection h with h; subst h; exact ⟨[], by simp, .nil⟩
  | r :: rs, xs, h => by
    simp only [resAll] at h
    split at h
    · rename_i x ys h1 h2
      injection h with h
      subst h
      obtain ⟨v, e1, e2⟩ := resOne_ok ht hi ha h1
      obtain ⟨vs, e3, e4⟩ := resAll_ok ht hi ha h2
      exact ⟨v :: vs, by simp only [List.mapM_cons, Sem.run_bind, e1, Result.andThen_ok, e3, Sem.run_pure], .cons _ _ _ _ e2 e4⟩
    · cases h
/-- What a body must come to, for R to hold of the call. -/
def Ends (tt : TTab) (rs : List ResultVar) (st0 : St) (R : PV → St → Prop) (e : Exit) (env : Env) (st : St) : Prop :=
  (e = .ret ∨ e = .normal) ∧ ∃ xs r st', resAll tt env st rs = some xs ∧ Weak (resPV xs) r ∧ Left st st' ∧ st0.box.length ≤ st'.box.length ∧ st0.len.length ≤ st'.len.length ∧ PV.clean st'.box.length st'.len.length r = true ∧ R r st'
theorem PC.intro (ht : TT P tt) {f : FuncId} {fn : Func} {c : Code} {args : List PV} {st : St} {R : PV → St → Prop} (hf : P.funcs[f]? = some fn) (hb : fn.body = some c) (hname : (fn.name == "runtime.NumGoroutine") = false) {n : Nat} (hnt : fn.ntmps = n) (hal : args.length ≤ n) {rs : List ResultVar} (hrs : fn.results.toList = rs)
    (h : PW P n c (Ends tt rs st R) (argsEnv 0 args) st) : PC P f args st R := by
  refine fun G w vs hi hv => .inl ⟨⟨fn, hf, hname, by simp [hb]⟩, ?_⟩
  subst hnt hrs
  refine calls_of_wp hf hb (wp_mono (h G _ w hi ?_) ?_)
  · refine ⟨rfl, ?_, ?_⟩
    · have := hv.length
      simp
      omega
    · intro i x e
      obtain ⟨_, e⟩ := argsEnv_get e
      obtain ⟨v, h1, h2⟩ := hv.get i x (by simpa using e)
      refine ⟨v, ?_, h2⟩
      have hlt := (List.getElem?_eq_some_iff.1 h1).1
      simp only [Array.getElem?_append]
      rw [if_pos (by simpa using hlt)]
      simpa using h1
  · rintro e a' w' ⟨G', env', st1, h1, h2, h3, he, xs, r, st', h4, h5, h6, h7, h8, h9, h10⟩
    obtain ⟨us, e1, e2⟩ := resAll_ok ht h2 h3 h4
    have hres : ∃ v, (results fn a'.tmps).run P w' = .ok v w' ∧ Rep G' (resPV xs) v := by
      have e1' : (fn.results.mapM (resSem a'.tmps)).run P w' = .ok us.toArray w' := by
        rw [Array.mapM_eq_mapM_toList, Sem.run_map, e1]
        rfl
      refine ⟨if h : us.toArray.size = 1 then us.toArray[0] else .tuple us.toArray, ?_, ?_⟩
      · rw [results_eq, Sem.run_bind, e1']
        rfl
      · cases e2 with
        | nil => exact .tup _ _ .nil
        | cons x v xs vs hx hxs => cases hxs with
          | nil => simpa [resPV] using hx
          | cons y u ys us hy hys =>
            simp only [resPV]
            rw [dif_neg (by simp)]
            exact .tup _ _ (.cons _ _ _ _ hx (.cons _ _ _ _ hy hys))
    obtain ⟨v, e3, e4⟩ := hres
    have hpost : a'.defers = [] ∧ ∃ v, (results fn a'.tmps).run P w' = .ok v w' ∧ ∃ u, Ending.returned v = .returned u ∧ ∃ G' r st', G.le G' ∧ Inv G' st' w' ∧ Rep G' r u ∧ R r st' ∧ st.len.length ≤ st'.len.length :=
      ⟨h3.defers, v, e3, v, rfl, _, r, st', h1.trunc hi h7 h8, h2.trunc h6, (h5 _ _ e4).trunc h9, h10, h8⟩
    rcases he with rfl | rfl
    · exact hpost
    · exact hpost

/-- A region, and what stands behind it under a name. -/
theorem PW.step (ht : TT P tt) (ow : List Nat) {id : Nat} {ops : Array Oper} {y : Code} {Q : Exit → Env → St → Prop} {env : Env} {st : St}
    (h : ∀ K : Env → St → Prop, (∀ env st, PW P nt y Q env st → K env st) → pOps P tt ow nt ops 0 ops.toList env st K) : PW P nt (.seq (.region id ops false) y) Q env st :=
  PW.seq_k fun K hK => PW.region ht ow (h K hK)
/-- A region, the last of its code. -/
theorem PW.last (ht : TT P tt) (ow : List Nat) {id : Nat} {ops : Array Oper} {Q : Exit → Env → St → Prop} {env : Env} {st : St}
    (h : ∀ K : Env → St → Prop, (∀ env st, Q .normal env st → K env st) → pOps P tt ow nt ops 0 ops.toList env st K) : PW P nt (.region id ops false) Q env st :=
  PW.region ht ow (h _ fun _ _ h => h)
theorem left_iff {st' st : St} : Left st' st ↔ Boxes (st'.box.take st.box.length) st.box ∧ st'.len.take st.len.length = st.len ∧ ∀ cs ∈ st.box, PVs.clean st.box.length st.len.length cs = true :=
  ⟨fun h => ⟨h.box, h.len, h.clean⟩, fun h => ⟨h.1, h.2.1, h.2.2⟩⟩
theorem clean_map {α : Type} {f : α → PV} {n m : Nat} (h : ∀ x, PV.clean n m (f x) = true) (l : List α) : PVs.clean n m (l.map f) = true :=
  PVs.clean_iff.2 fun x hx => by obtain ⟨y, _, rfl⟩ := List.mem_map.1 hx; exact h y
/-- At a body's end. -/
theorem Ends.ret {rs : List ResultVar} {st0 : St} {R : PV → St → Prop} {env : Env} {st : St} {xs : List PV} {r : PV} {st' : St} (h1 : resAll tt env st rs = some xs) (hr : R r st') (hw : Weak (resPV xs) r) (hl : Left st st')
    (hb : st0.box.length ≤ st'.box.length) (hm : st0.len.length ≤ st'.len.length) (hc : PV.clean st'.box.length st'.len.length r = true) : Ends tt rs st0 R .ret env st := ⟨.inl rfl, xs, r, st', h1, hw, hl, hb, hm, hc, hr⟩
theorem Ends.normal {rs : List ResultVar} {st0 : St} {R : PV → St → Prop} {env : Env} {st : St} {xs : List PV} {r : PV} {st' : St} (h1 : resAll tt env st rs = some xs) (hr : R r st') (hw : Weak (resPV xs) r) (hl : Left st st')
    (hb : st0.box.length ≤ st'.box.length) (hm : st0.len.length ≤ st'.len.length) (hc : PV.clean st'.box.length st'.len.length r = true) : Ends tt rs st0 R .normal env st := ⟨.inr rfl, xs, r, st', h1, hw, hl, hb, hm, hc, hr⟩
end
end Go.Proofs.YtolhbjfaahcekaaDoor
end
section
/- A call's contract, told of its own variables alone, among others: the frame. -/
set_option linter.unusedVariables false
set_option linter.unusedSimpArgs false
namespace Go.Proofs.YtolhbjfaahcekaaDoor

def Tk.ren (κ : Nat → Nat) : Tk → Tk
  | .own k => .own (κ k)
  | t => t
mutual
def PV.ren (ρ κ : Nat → Nat) : PV → PV
  | .list sz xs t => .list sz (PVs.ren ρ κ xs) (t.ren κ)
  | .ref r o => .ref (ρ r) o
  | .elem x => .elem (PV.ren ρ κ x)
  | .agg cs => .agg (PVs.ren ρ κ cs)
  | .tup cs => .tup (PVs.ren ρ κ cs)
  | .clo fn fs cs => .clo fn (PVs.ren ρ κ fs) (PVs.ren ρ κ cs)
  | .int k n => .int k n
  | .bool b => .bool b
  | .str l => .str l
  | .val v => .val v
def PVs.ren (ρ κ : Nat → Nat) : List PV → List PV
  | [] => []
  | x :: xs => PV.ren ρ κ x :: PVs.ren ρ κ xs
end
section
variable {ρ κ : Nat → Nat}
theorem PVs.ren_map : ∀ xs : List PV, PVs.ren ρ κ xs = xs.map (PV.ren ρ κ)
  | [] => rfl
  | x :: xs => by simp [PVs.ren, PVs.ren_map xs]
theorem PVs.ren_length (xs : List PV) : (PVs.ren ρ κ xs).length = xs.length := by rw [PVs.ren_map]; simp
theorem PVs.ren_append (xs ys : List PV) : PVs.ren ρ κ (xs ++ ys) = PVs.ren ρ κ xs ++ PVs.ren ρ κ ys := by simp [PVs.ren_map]
theorem PV.ren_cells (x : PV) : (PV.ren ρ κ x).cells = PVs.ren ρ κ x.cells := by cases x <;> simp [PV.ren, PV.cells, PVs.ren]
theorem PVs.ren_cellsOf : ∀ xs : List PV, cellsOf (PVs.ren ρ κ xs) = PVs.ren ρ κ (cellsOf xs)
  | [] => rfl
  | x :: xs => by rw [PVs.ren, cellsOf_cons, cellsOf_cons, PVs.ren_append, PV.ren_cells, PVs.ren_cellsOf xs]
theorem PV.ren_isCell (x : PV) : (PV.ren ρ κ x).isCell = x.isCell := by cases x <;> rfl
mutual
/-- What speaks of no variable and no object is as it is. -/
theorem PV.ren_data : ∀ {x : PV}, PV.clean 0 0 x = true → PV.ren ρ κ x = x
  | .list sz xs t, h => by
    simp only [PV.clean, Bool.and_eq_true] at h
    rw [PV.ren, PVs.ren_data h.2]
    cases t <;> simp_all [Tk.ren]
  | .ref r o, h => by simp [PV.clean] at h
  | .elem x, h => by rw [PV.ren, PV.ren_data (by simpa [PV.clean] using h)]
  | .agg cs, h => by rw [PV.ren, PVs.ren_data (by simpa [PV.clean] using h)]
  | .tup cs, h => by rw [PV.ren, PVs.ren_data (by simpa [PV.clean] using h)]
  | .clo fn fs cs, h => by
    simp only [PV.clean, Bool.and_eq_true] at h
    rw [PV.ren, PVs.ren_data h.1, PVs.ren_data h.2]
  | .int k n, _ => rfl
  | .bool b, _ => rfl
  | .str l, _ => rfl
  | .val v, _ => rfl
theorem PVs.ren_data : ∀ {xs : List PV}, PVs.clean 0 0 xs = true → PVs.ren ρ κ xs = xs
  | [], _ => rfl
  | x :: xs, h => by
    simp only [PVs.clean, Bool.and_eq_true] at h
    rw [PVs.ren, PV.ren_data h.1, PVs.ren_data h.2]
end
end

/-- The ghost of a call that knows of some variables and objects alone. -/
def Gh.part (G : Gh) (st : St) (w : World) (ρ κ : List Nat) : Gh where
  w0 := w
  pub := fun b => ∃ i r : Nat, ρ[i]? = some r ∧ G.ref[r]? = some b
  pob := fun b => ∃ j k n c sz : Nat, κ[j]? = some k ∧ st.len[k]? = some n ∧ G.hist k n = some (b, c, sz)
  dat := G.dat
  ref := ρ.map fun r => G.ref.getD r 0
  hist := fun j n => match κ[j]? with
    | some k => G.hist k n
    | none => none
/-- How the call's variables and objects are called outside: new ones stand behind all that were there. -/
def out (ρ : List Nat) (n : Nat) (i : Nat) : Nat := if i < ρ.length then ρ.getD i 0 else n + (i - ρ.length)

mutual
theorem Rep.part' {G : Gh} {st : St} {w : World} {ρ κ : List Nat} {n m : Nat} : ∀ {y : PV} {v : Value}, Rep G y v → ∀ x, y = PV.ren (out ρ n) (out κ m) x → PV.clean ρ.length κ.length x = true → (∀ r ∈ ρ, r < G.ref.length) → Rep (G.part st w ρ κ) x v
  | _, _, .int k i, x, e, c, hρ => by cases x <;> simp [PV.ren] at e; obtain ⟨rfl, rfl⟩ := e; exact .int _ _
  | _, _, .bool b, x, e, c, hρ => by cases x <;> simp [PV.ren] at e; subst e; exact .bool _
  | _, _, .str l, x, e, c, hρ => by cases x <;> simp [PV.ren] at e; subst e; exact .str _
  | _, _, .val u, x, e, c, hρ => by cases x <;> simp [PV.ren] at e; subst e; exact .val _
  | _, _, .none sz t, x, e, c, hρ => by
    cases x <;> simp [PV.ren] at e
    rename_i sz' xs' t'
    obtain ⟨rfl, e, rfl⟩ := e
    have : xs' = [] := by cases xs' <;> simp [PVs.ren] at e ⊢
    subst this
    exact .none _ _
  | _, _, .list sz xs t b o cp vs h1 h2 h3 h4 h5 h6 h7, x, e, c, hρ => by
    have IH := fun zs e c => Reps.part' (st := st) (w := w) (ρ := ρ) (κ := κ) (n := n) (m := m) h5 zs e c hρ
    cases x <;> simp [PV.ren] at e
    rename_i sz' xs' t'
    obtain ⟨rfl, rfl, rfl⟩ := e
    simp only [PV.clean, Bool.and_eq_true] at c
    rw [PVs.ren_length] at h2 h7 ⊢
    rw [PVs.ren_cellsOf] at h4
    refine .list sz xs' t' b o cp vs (by rintro rfl; exact h1 rfl) h2 ?_ ?_ (IH _ (PVs.ren_cellsOf xs') (by rw [PVs.clean_cellsOf]; exact c.2)) h6 ?_
    · intro x hx
      have := h3 (PV.ren _ _ x) (by rw [PVs.ren_map]; exact List.mem_map_of_mem hx)
      rwa [PV.ren_cells, PVs.ren_length] at this
    · intro x hx
      have := h4 (PV.ren _ _ x) (by rw [PVs.ren_map]; exact List.mem_map_of_mem hx)
      rwa [PV.ren_isCell] at this
    · rintro k rfl
      have hk : k < κ.length := by simpa using c.1
      obtain ⟨h8, h9⟩ := h7 (out κ m k) rfl
      refine ⟨h8, ?_⟩
      simp only [Gh.part, List.getElem?_eq_getElem hk]
      simpa [out, hk, List.getD_eq_getElem?_getD] using h9
  | _, _, .ref r b o hb, x, e, c, hρ => by
    cases x <;> simp [PV.ren] at e
    rename_i r' o'
    obtain ⟨rfl, rfl⟩ := e
    have hr : r' < ρ.length := by simpa [PV.clean] using c
    refine .ref r' b o ?_
    simp only [out, hr, if_true, List.getD_eq_getElem?_getD, List.getElem?_eq_getElem hr, Option.getD_some] at hb
    simp [Gh.part, List.getElem?_map, List.getElem?_eq_getElem hr, hb]
  | _, _, .elem y b o vs h1 h2 h3, x, e, c, hρ => by
    have IH := fun zs e c => Reps.part' (st := st) (w := w) (ρ := ρ) (κ := κ) (n := n) (m := m) h2 zs e c hρ
    cases x <;> simp [PV.ren] at e
    rename_i x'
    subst e
    rw [PV.ren_cells] at h1
    refine .elem x' b o vs ?_ (IH _ (PV.ren_cells x') (by rw [PV.clean_cells]; simpa [PV.clean] using c)) h3
    intro y hy
    have := h1 (PV.ren _ _ y) (by rw [PVs.ren_map]; exact List.mem_map_of_mem hy)
    rwa [PV.ren_isCell] at this
  | _, _, .agg cs vs h1 h2, x, e, c, hρ => by
    have IH := fun zs e c => Reps.part' (st := st) (w := w) (ρ := ρ) (κ := κ) (n := n) (m := m) h2 zs e c hρ
    cases x <;> simp [PV.ren] at e
    rename_i cs'
    subst e
    refine .agg cs' vs ?_ (IH _ rfl (by simpa [PV.clean] using c))
    intro y hy
    have := h1 (PV.ren _ _ y) (by rw [PVs.ren_map]; exact List.mem_map_of_mem hy)
    rwa [PV.ren_isCell] at this
  | _, _, .tup cs vs h2, x, e, c, hρ => by
    have IH := fun zs e c => Reps.part' (st := st) (w := w) (ρ := ρ) (κ := κ) (n := n) (m := m) h2 zs e c hρ
    cases x <;> simp [PV.ren] at e
    subst e
    exact .tup _ vs (IH _ rfl (by simpa [PV.clean] using c))
  | _, _, .clo fn fs cs us vs h1 h2, x, e, c, hρ => by
    have IH1 := fun zs e c => Reps.part' (st := st) (w := w) (ρ := ρ) (κ := κ) (n := n) (m := m) h1 zs e c hρ
    have IH2 := fun zs e c => Reps.part' (st := st) (w := w) (ρ := ρ) (κ := κ) (n := n) (m := m) h2 zs e c hρ
    cases x <;> simp [PV.ren] at e
    obtain ⟨rfl, rfl, rfl⟩ := e
    simp only [PV.clean, Bool.and_eq_true] at c
    exact .clo _ _ _ us vs (IH1 _ rfl c.1) (IH2 _ rfl c.2)
theorem Reps.part' {G : Gh} {st : St} {w : World} {ρ κ : List Nat} {n m : Nat} : ∀ {ys : List PV} {vs : List Value}, Reps G ys vs → ∀ xs, ys = PVs.ren (out ρ n) (out κ m) xs → PVs.clean ρ.length κ.length xs = true → (∀ r ∈ ρ, r < G.ref.length) → Reps (G.part st w ρ κ) xs vs
  | _, _, .nil, xs, e, c, hρ => by cases xs <;> simp [PVs.ren] at e; exact .nil
  | _, _, .cons y v ys vs h1 h2, xs, e, c, hρ => by
    have IH1 := fun z e c => Rep.part' (st := st) (w := w) (ρ := ρ) (κ := κ) (n := n) (m := m) h1 z e c hρ
    have IH2 := fun zs e c => Reps.part' (st := st) (w := w) (ρ := ρ) (κ := κ) (n := n) (m := m) h2 zs e c hρ
    cases xs <;> simp [PVs.ren] at e
    obtain ⟨rfl, rfl⟩ := e
    simp only [PVs.clean, Bool.and_eq_true] at c
    exact .cons _ _ _ _ (IH1 _ rfl c.1) (IH2 _ rfl c.2)
end
theorem Reps.part {G : Gh} {st : St} {w : World} {ρ κ : List Nat} {n m : Nat} (hρ : ∀ r ∈ ρ, r < G.ref.length) {xs : List PV} {vs : List Value} (c : PVs.clean ρ.length κ.length xs = true) (h : Reps G (PVs.ren (out ρ n) (out κ m) xs) vs) : Reps (G.part st w ρ κ) xs vs :=
  Reps.part' h xs rfl c hρ
mutual
/-- The way back. -/
theorem Rep.back {G G' : Gh} {f g : Nat → Nat} (hd : G'.dat = G.dat) (hr : ∀ (r b : Nat), G.ref[r]? = some b → G'.ref[f r]? = some b) (hh : ∀ k i x, G.hist k i = some x → G'.hist (g k) i = some x) : ∀ {x : PV} {v : Value}, Rep G x v → Rep G' (PV.ren f g x) v
  | _, _, .int k n => .int k n
  | _, _, .bool b => .bool b
  | _, _, .str l => .str l
  | _, _, .none sz t => .none sz _
  | _, _, .list sz xs t b o c vs ht hc hs h1 hv hp hk => by
    rw [PV.ren]
    have := Rep.list (G := G') sz (PVs.ren f g xs) (t.ren g) b o c vs (by cases t <;> simp_all [Tk.ren]) (by rw [PVs.ren_length]; exact hc)
      (by
        intro y hy
        rw [PVs.ren_map] at hy
        obtain ⟨z, hz, rfl⟩ := List.mem_map.1 hy
        rw [PV.ren_cells, PVs.ren_length]
        exact hs z hz)
      (by
        rw [PVs.ren_cellsOf]
        intro y hy
        rw [PVs.ren_map] at hy
        obtain ⟨z, hz, rfl⟩ := List.mem_map.1 hy
        rw [PV.ren_isCell]
        exact h1 z hz)
      (by rw [PVs.ren_cellsOf]; exact Reps.back hd hr hh hv) (by rw [hd]; exact hp)
      (by
        intro k e
        cases t with
        | own k' =>
          injection e with e
          subst e
          rw [PVs.ren_length]
          exact ⟨(hk k' rfl).1, hh _ _ _ (hk k' rfl).2⟩
        | nil => cases e
        | no => cases e)
    rw [PVs.ren_length] at this
    exact this
  | _, _, .ref r b off h => .ref _ b off (hr r b h)
  | _, _, .elem x b o vs h1 hv hp => by
    rw [PV.ren]
    refine .elem _ b o vs ?_ (by rw [PV.ren_cells]; exact Reps.back hd hr hh hv) (by rw [hd]; exact hp)
    rw [PV.ren_cells]
    intro y hy
    rw [PVs.ren_map] at hy
    obtain ⟨z, hz, rfl⟩ := List.mem_map.1 hy
    rw [PV.ren_isCell]
    exact h1 z hz
  | _, _, .agg cs vs h1 hv => by
    rw [PV.ren]
    refine .agg _ vs ?_ (Reps.back hd hr hh hv)
    intro y hy
    rw [PVs.ren_map] at hy
    obtain ⟨z, hz, rfl⟩ := List.mem_map.1 hy
    rw [PV.ren_isCell]
    exact h1 z hz
  | _, _, .tup cs vs hv => .tup _ vs (Reps.back hd hr hh hv)
  | _, _, .clo fn fs cs us vs hu hv => .clo fn _ _ us vs (Reps.back hd hr hh hu) (Reps.back hd hr hh hv)
  | _, _, .val v => .val v
theorem Reps.back {G G' : Gh} {f g : Nat → Nat} (hd : G'.dat = G.dat) (hr : ∀ (r b : Nat), G.ref[r]? = some b → G'.ref[f r]? = some b) (hh : ∀ k i x, G.hist k i = some x → G'.hist (g k) i = some x) : ∀ {xs : List PV} {vs : List Value}, Reps G xs vs → Reps G' (PVs.ren f g xs) vs
  | _, _, .nil => .nil
  | _, _, .cons x v xs vs h t => .cons _ v _ vs (Rep.back hd hr hh h) (Reps.back hd hr hh t)
end

def setAll {α : Type} : List Nat → List α → List α → List α
  | r :: ρ, old, x :: new => setAll ρ (old.set r x) new
  | _, old, _ => old
def mergeL {α : Type} (ρ : List Nat) (old new : List α) : List α := setAll ρ old new ++ new.drop ρ.length
theorem setAll_length {α : Type} : ∀ (ρ : List Nat) (old new : List α), (setAll ρ old new).length = old.length
  | [], old, new => by simp [setAll]
  | r :: ρ, old, [] => by simp [setAll]
  | r :: ρ, old, x :: new => by rw [setAll, setAll_length]; simp
theorem setAll_other {α : Type} : ∀ (ρ : List Nat) (old new : List α) (k : Nat), k ∉ ρ → (setAll ρ old new)[k]? = old[k]?
  | [], old, new, k, _ => by simp [setAll]
  | r :: ρ, old, [], k, _ => by simp [setAll]
  | r :: ρ, old, x :: new, k, h => by
    simp only [List.mem_cons, not_or] at h
    rw [setAll, setAll_other ρ _ new k h.2, List.getElem?_set, if_neg (Ne.symm h.1)]
theorem setAll_at {α : Type} : ∀ (ρ : List Nat) (old new : List α) (i r : Nat) (x : α), ρ.Nodup → ρ[i]? = some r → new[i]? = some x → r < old.length → (setAll ρ old new)[r]? = some x
  | [], old, new, i, r, x, _, h, _, _ => by simp at h
  | q :: ρ, old, [], i, r, x, _, _, h, _ => by simp at h
  | q :: ρ, old, y :: new, 0, r, x, hn, h1, h2, h3 => by
    simp at h1 h2
    subst h1 h2
    rw [setAll, setAll_other ρ _ new q (List.nodup_cons.1 hn).1]
    simp [List.getElem?_set, h3]
  | q :: ρ, old, y :: new, i + 1, r, x, hn, h1, h2, h3 => by
    rw [setAll]
    exact setAll_at ρ _ new i r x (List.nodup_cons.1 hn).2 (by simpa using h1) (by simpa using h2) (by simpa using h3)
section
variable {α : Type} {ρ : List Nat} {old new : List α}
theorem mergeL_length (h : ρ.length ≤ new.length) : (mergeL ρ old new).length = old.length + (new.length - ρ.length) := by simp [mergeL, setAll_length]
theorem mergeL_at {i r : Nat} {x : α} (hn : ρ.Nodup) (h1 : ρ[i]? = some r) (h2 : new[i]? = some x) (h3 : r < old.length) : (mergeL ρ old new)[r]? = some x := by
  rw [mergeL, List.getElem?_append_left (by rw [setAll_length]; exact h3)]
  exact setAll_at ρ old new i r x hn h1 h2 h3
theorem mergeL_other {k : Nat} (h : k ∉ ρ) (hk : k < old.length) : (mergeL ρ old new)[k]? = old[k]? := by
  rw [mergeL, List.getElem?_append_left (by rw [setAll_length]; exact hk), setAll_other ρ old new k h]
theorem mergeL_new {k : Nat} (hk : old.length ≤ k) : (mergeL ρ old new)[k]? = new[ρ.length + (k - old.length)]? := by
  rw [mergeL, List.getElem?_append_right (by rw [setAll_length]; exact hk), setAll_length, List.getElem?_drop]
end
theorem idx_mem {κ : List Nat} {k : Nat} (h : k ∈ κ) : ∃ j : Nat, κ[j]? = some k := List.mem_iff_getElem?.1 h

/-- What the outside is after the call. -/
def Gh.outer (G G0 : Gh) (st : St) (ρ κ : List Nat) : Gh where
  w0 := G.w0
  pub := G.pub
  pob := G.pob
  dat := G0.dat
  ref := G.ref ++ G0.ref.drop ρ.length
  hist := fun k i => match κ.idxOf? k with
    | some j => G0.hist j i
    | none => if k < st.len.length then G.hist k i else G0.hist (κ.length + (k - st.len.length)) i
def merge (ρ κ : List Nat) (st st0 : St) : St :=
  ⟨mergeL ρ st.box (st0.box.map (PVs.ren (out ρ st.box.length) (out κ st.len.length))), mergeL κ st.len st0.len⟩

theorem idxOf_some {κ : List Nat} (hn : κ.Nodup) {j k : Nat} (h : κ[j]? = some k) : κ.idxOf? k = some j := by
  cases hi : κ.idxOf? k with
  | none =>
    rw [List.idxOf?_eq_none_iff] at hi
    exact absurd (List.mem_of_getElem? h) hi
  | some i =>
    have h2 : κ[i]? = some k := by
      have := List.of_findIdx?_eq_some (p := (· == k)) hi
      split at this
      · rename_i a ha
        simp at this
        rw [ha, this]
      · cases this
    rw [nodup_inj hn h2 h]
theorem idxOf_none {κ : List Nat} {k : Nat} (h : k ∉ κ) : κ.idxOf? k = none := List.idxOf?_eq_none_iff.2 h

theorem PC.frame {P : Program} {f : FuncId} {args0 : List PV} {st0 : St} {R : PV → St → Prop} (h : PC P f args0 st0 R) (ρ κ : List Nat) (st : St) (hρl : ρ.length = st0.box.length) (hκl : κ.length = st0.len.length) (hρn : ρ.Nodup) (hκn : κ.Nodup)
    (hbox : ∀ (i : Nat) cs, st0.box[i]? = some cs → ∃ r, ρ[i]? = some r ∧ st.box[r]? = some (PVs.ren (out ρ st.box.length) (out κ st.len.length) cs))
    (hlen : ∀ (j n : Nat), st0.len[j]? = some n → ∃ k, κ[j]? = some k ∧ st.len[k]? = some n)
    (hca : PVs.clean ρ.length κ.length args0 = true) (hcb : ∀ cs ∈ st0.box, PVs.clean ρ.length κ.length cs = true) :
    PC P f (PVs.ren (out ρ st.box.length) (out κ st.len.length) args0) st fun r st' => ∃ r0 st1, R r0 st1 ∧ st0.box.length ≤ st1.box.length ∧ st0.len.length ≤ st1.len.length ∧ r = PV.ren (out ρ st.box.length) (out κ st.len.length) r0 ∧ st' = merge ρ κ st st1 := by
  refine fun G w vs hi hv => ?_
  have hρlt : ∀ r ∈ ρ, r < G.ref.length := by
    intro r hr
    obtain ⟨i, hir⟩ := idx_mem hr
    have hil : i < st0.box.length := by rw [← hρl]; exact (List.getElem?_eq_some_iff.1 hir).1
    obtain ⟨r', h1, h2⟩ := hbox i _ (List.getElem?_eq_getElem hil)
    rw [hir] at h1
    injection h1 with h1
    subst h1
    rw [hi.rlen]
    exact (List.getElem?_eq_some_iff.1 h2).1
  have hκlt : ∀ k ∈ κ, k < st.len.length := by
    intro k hk
    obtain ⟨j, hj⟩ := idx_mem hk
    have hjl : j < st0.len.length := by rw [← hκl]; exact (List.getElem?_eq_some_iff.1 hj).1
    obtain ⟨k', h1, h2⟩ := hlen j _ (List.getElem?_eq_getElem hjl)
    rw [hj] at h1
    injection h1 with h1
    subst h1
    exact (List.getElem?_eq_some_iff.1 h2).1
  have hpref : ∀ (i b : Nat), (G.part st w ρ κ).ref[i]? = some b ↔ ∃ r, ρ[i]? = some r ∧ G.ref[r]? = some b := by
    intro i b
    simp only [Gh.part, List.getElem?_map]
    constructor
    · intro e
      cases hr : ρ[i]? with
      | none => rw [hr] at e; cases e
      | some r =>
        rw [hr] at e
        have hlt := hρlt r (List.mem_of_getElem? hr)
        simp [List.getD_eq_getElem?_getD, List.getElem?_eq_getElem hlt] at e
        exact ⟨r, rfl, by rw [List.getElem?_eq_getElem hlt, e]⟩
    · rintro ⟨r, h1, h2⟩
      simp [h1, List.getD_eq_getElem?_getD, h2]
  have hlen' : ∀ (j k : Nat), κ[j]? = some k → ∃ n, st0.len[j]? = some n ∧ st.len[k]? = some n := by
    intro j k e
    have hjl : j < st0.len.length := by rw [← hκl]; exact (List.getElem?_eq_some_iff.1 e).1
    obtain ⟨k', h1, h2⟩ := hlen j _ (List.getElem?_eq_getElem hjl)
    rw [e] at h1
    injection h1 with h1
    subst h1
    exact ⟨_, List.getElem?_eq_getElem hjl, h2⟩
  -- what the call knows
  have hi0 : Inv (G.part st w ρ κ) st0 w := by
    have hlaid : Laid (G.part st w ρ κ).w0 (G.part st w ρ κ).pub (G.part st w ρ κ).pob := by
      refine ⟨Nat.le_trans hi.laid.size hi.kept.size, ?_, ?_, hi.tab⟩
      · rintro b hb ⟨i, r, _, h2⟩
        rcases (hi.box r b h2).1 with h3 | h3
        · exact hi.laid.pub b hb h3
        · have := hi.laid.size; omega
      · rintro b hb ⟨j, k, n, c, sz, _, h2, h3⟩
        rcases (hi.own k n h2 b c sz h3).1 with h4 | h4
        · exact hi.laid.pob b hb h4
        · have := hi.laid.size; omega
    refine ⟨⟨rfl, rfl, rfl, Nat.le_refl _, fun _ _ _ _ => rfl⟩, hi.dat, by simp [Gh.part, hρl], ?_, ?_, ?_, ?_, ?_, hlaid⟩
    · intro i b e
      obtain ⟨r, h1, h2⟩ := (hpref i b).1 e
      obtain ⟨h3, h4, cs, us, h5, h6, h7, h8⟩ := hi.box r b h2
      have hil : i < st0.box.length := by rw [← hρl]; exact (List.getElem?_eq_some_iff.1 h1).1
      obtain ⟨r', e1, e2⟩ := hbox i _ (List.getElem?_eq_getElem hil)
      rw [h1] at e1
      injection e1 with e1
      subst e1
      rw [h5] at e2
      injection e2 with e2
      subst e2
      refine ⟨.inl ⟨i, r, h1, h2⟩, h4, st0.box[i], us, List.getElem?_eq_getElem hil, h6, Reps.part hρlt (hcb _ (List.getElem_mem hil)) h7, ?_⟩
      intro x hx
      have := h8 (PV.ren _ _ x) (by rw [PVs.ren_map]; exact List.mem_map_of_mem hx)
      rwa [PV.ren_isCell] at this
    · show List.Pairwise (· ≠ ·) (G.part st w ρ κ).ref
      rw [List.pairwise_iff_getElem]
      intro i j hil hjl hij e
      have h1 := (hpref i _).1 (List.getElem?_eq_getElem hil)
      have h2 := (hpref j _).1 (List.getElem?_eq_getElem hjl)
      obtain ⟨r, h3, h4⟩ := h1
      obtain ⟨r', h5, h6⟩ := h2
      rw [e] at h4
      have := nodup_inj hi.inj h4 h6
      subst this
      have := nodup_inj hρn h3 h5
      omega
    · intro j n e b c sz e2
      simp only [Gh.part] at e2
      split at e2
      · rename_i k hk
        obtain ⟨n', h1, h2⟩ := hlen' j k hk
        rw [e] at h1
        injection h1 with h1
        subst h1
        obtain ⟨h3, h4, h5⟩ := hi.own k n h2 b c sz e2
        refine ⟨.inl ⟨j, k, n, c, sz, hk, h2, e2⟩, ?_, h5⟩
        intro hm
        obtain ⟨i, hi2⟩ := idx_mem hm
        obtain ⟨r, _, h7⟩ := (hpref i b).1 hi2
        exact h4 (List.mem_of_getElem? h7)
      · cases e2
    · intro j j' n n' b c sz c' sz' e e' e2 e2'
      simp only [Gh.part] at e2 e2'
      split at e2
      · rename_i k hk
        split at e2'
        · rename_i k' hk'
          obtain ⟨m, h1, h2⟩ := hlen' j k hk
          rw [e] at h1
          injection h1 with h1
          subst h1
          obtain ⟨m', h1', h2'⟩ := hlen' j' k' hk'
          rw [e'] at h1'
          injection h1' with h1'
          subst h1'
          have := hi.apart k k' n n' b c sz c' sz' h2 h2' e2 e2'
          subst this
          exact nodup_inj hκn hk hk'
        · cases e2'
      · cases e2
    · intro j n e
      simp only [Gh.part]
      split
      · rename_i k hk
        obtain ⟨m, h1, h2⟩ := hlen' j k hk
        exact hi.fresh k n fun q hq => by rw [h2] at hq; injection hq with hq; subst hq; exact e _ h1
      · rfl
  refine (h _ w vs hi0 (Reps.part hρlt hca hv)).mono ?_
  rintro v w' ⟨G0', r0, st1, hle0, hi1, hr0, hR, hlen1⟩
  have hbl1 : st0.box.length ≤ st1.box.length := by
    have h1 := hi1.rlen
    have h2 := hi0.rlen
    have h3 := hle0.ref.length_le
    omega
  have hρ1 : ρ.length ≤ (st1.box.map (PVs.ren (out ρ st.box.length) (out κ st.len.length))).length := by simp; omega
  have hκ1 : κ.length ≤ st1.len.length := by omega
  -- names outside
  have hκi : ∀ (j k : Nat), κ[j]? = some k → κ.idxOf? k = some j := fun j k e => idxOf_some hκn e
  have hhistκ : ∀ (j k i : Nat), κ[j]? = some k → (G.outer G0' st ρ κ).hist k i = G0'.hist j i := by
    intro j k i e
    simp only [Gh.outer, hκi j k e]
  have hhistO : ∀ (k i : Nat), k ∉ κ → k < st.len.length → (G.outer G0' st ρ κ).hist k i = G.hist k i := by
    intro k i hk hl
    simp only [Gh.outer, idxOf_none hk, if_pos hl]
  have hhistN : ∀ (k i : Nat), st.len.length ≤ k → (G.outer G0' st ρ κ).hist k i = G0'.hist (κ.length + (k - st.len.length)) i := by
    intro k i hl
    have hk : k ∉ κ := fun hm => by have := hκlt k hm; omega
    simp only [Gh.outer, idxOf_none hk]
    rw [if_neg (by omega)]
  have hrefOut : ∀ (r b : Nat), G0'.ref[r]? = some b → (G.outer G0' st ρ κ).ref[out ρ st.box.length r]? = some b := by
    intro r b e
    show (G.ref ++ G0'.ref.drop ρ.length)[_]? = _
    by_cases hr : r < ρ.length
    · have hr' : r < (G.part st w ρ κ).ref.length := by simpa [Gh.part] using hr
      have e2 : (G.part st w ρ κ).ref[r]? = some b := by
        rw [List.getElem?_eq_getElem hr']
        have := prefix_get hle0.ref (List.getElem?_eq_getElem hr')
        rw [e] at this
        exact this.symm
      obtain ⟨q, h1, h2⟩ := (hpref r b).1 e2
      have hq : out ρ st.box.length r = q := by simp only [out, hr, if_true, List.getD_eq_getElem?_getD, h1, Option.getD_some]
      rw [hq, List.getElem?_append_left (hρlt q (List.mem_of_getElem? h1))]
      exact h2
    · have ho : out ρ st.box.length r = st.box.length + (r - ρ.length) := by simp [out, hr]
      rw [ho, List.getElem?_append_right (by rw [hi.rlen]; omega), List.getElem?_drop, ← e]
      congr 1
      rw [hi.rlen]
      omega
  have hhistOut : ∀ (k i : Nat) x, G0'.hist k i = some x → (G.outer G0' st ρ κ).hist (out κ st.len.length k) i = some x := by
    intro k i x e
    by_cases hk : k < κ.length
    · have ho : out κ st.len.length k = κ[k] := by simp [out, hk, List.getD_eq_getElem?_getD]
      rw [ho, hhistκ k κ[k] i (List.getElem?_eq_getElem hk)]
      exact e
    · have ho : out κ st.len.length k = st.len.length + (k - κ.length) := by simp [out, hk]
      rw [ho, hhistN _ _ (by omega), ← e]
      congr 1
      omega
  have hback : ∀ {x : PV} {u : Value}, Rep G0' x u → Rep (G.outer G0' st ρ κ) (PV.ren (out ρ st.box.length) (out κ st.len.length) x) u := fun h => Rep.back (G := G0') (G' := G.outer G0' st ρ κ) rfl hrefOut hhistOut h
  have hbacks : ∀ {xs : List PV} {us : List Value}, Reps G0' xs us → Reps (G.outer G0' st ρ κ) (PVs.ren (out ρ st.box.length) (out κ st.len.length) xs) us := fun h => Reps.back (G := G0') (G' := G.outer G0' st ρ κ) rfl hrefOut hhistOut h
  -- what may have been written
  have hpub : ∀ b, (G.part st w ρ κ).pub b → b < w.heap.size ∧ (G.pub b ∨ G.w0.heap.size ≤ b) := by
    rintro b ⟨i, r, h1, h2⟩
    exact ⟨hi.ref_lt h2, (hi.box r b h2).1⟩
  have hpob : ∀ b, (G.part st w ρ κ).pob b → b < w.heap.size ∧ (G.pob b ∨ G.w0.heap.size ≤ b) ∧ b ∉ G.ref := by
    rintro b ⟨j, k, n, c, sz, h1, h2, h3⟩
    obtain ⟨h4, h5, _, us, h6, _⟩ := hi.own k n h2 b c sz h3
    exact ⟨row_lt h6, h4, h5⟩
  have hsame : ∀ b, b < w.heap.size → ¬ (G.part st w ρ κ).pub b → ¬ (G.part st w ρ κ).pob b → w'.heap[b]? = w.heap[b]? ∧ G0'.dat b = G.dat b := by
    intro b hb h1 h2
    have hw0 : G0'.w0 = w := hle0.w0
    refine ⟨?_, hle0.old b hb h1 h2⟩
    have := hi1.kept.block b (by rw [hw0]; exact hb) (by rw [hle0.pub]; exact h1) (by rw [hle0.pob]; exact h2)
    rw [hw0] at this
    exact this
  have hk1 : Kept w (G.part st w ρ κ).pub (G.part st w ρ κ).pob w' := by
    have := hi1.kept
    rw [hle0.w0, hle0.pub, hle0.pob] at this
    exact this
  have hle : G.le (G.outer G0' st ρ κ) := by
    refine ⟨rfl, rfl, rfl, hle0.dat, ?_, List.prefix_append _ _, ?_⟩
    · intro b hb h1 h2
      have hbw : b < w.heap.size := Nat.lt_of_lt_of_le hb hi.kept.size
      refine (hsame b hbw ?_ ?_).2
      · intro hp
        rcases (hpub b hp).2 with h | h
        · exact h1 h
        · exact absurd hb (by omega)
      · intro hp
        rcases (hpob b hp).2.1 with h | h
        · exact h2 h
        · exact absurd hb (by omega)
    · intro k n x e
      have hkl : k < st.len.length := by
        rcases Nat.lt_or_ge k st.len.length with h | h
        · exact h
        · rw [hi.fresh k n fun q hq => by rw [List.getElem?_eq_none h] at hq; cases hq] at e
          cases e
      by_cases hk : k ∈ κ
      · obtain ⟨j, hj⟩ := idx_mem hk
        rw [hhistκ j k n hj]
        refine hle0.hist j n x ?_
        simp only [Gh.part, hj]
        exact e
      · rw [hhistO k n hk hkl]
        exact e
  -- variables new inside are new outside
  have hnew : ∀ (i b : Nat), ρ.length ≤ i → G0'.ref[i]? = some b → w.heap.size ≤ b := by
    intro i b hil e
    obtain ⟨h1, _⟩ := hi1.box i b e
    rw [hle0.w0, hle0.pub] at h1
    rcases h1 with ⟨i', r, h2, h3⟩ | h1
    · have e2 := prefix_get hle0.ref ((hpref i' b).2 ⟨r, h2, h3⟩)
      have := nodup_inj hi1.inj e e2
      have := (List.getElem?_eq_some_iff.1 h2).1
      omega
    · exact h1
  have hrefA : ∀ (i r b : Nat), ρ[i]? = some r → G.ref[r]? = some b → G0'.ref[i]? = some b := fun i r b h1 h2 => prefix_get hle0.ref ((hpref i b).2 ⟨r, h1, h2⟩)
  have hdrop : ∀ b, b ∈ G0'.ref.drop ρ.length → ∃ i : Nat, ρ.length ≤ i ∧ G0'.ref[i]? = some b := by
    intro b hb
    obtain ⟨i, e⟩ := idx_mem hb
    rw [List.getElem?_drop] at e
    exact ⟨_, Nat.le_add_right _ _, e⟩
  have hrefnot : ∀ b, b < w.heap.size → b ∉ G.ref → b ∉ (G.outer G0' st ρ κ).ref := by
    intro b hb h1 hm
    rcases List.mem_append.1 hm with hm | hm
    · exact h1 hm
    · obtain ⟨i, h2, h3⟩ := hdrop b hm
      have := hnew i b h2 h3
      omega
  -- an object of the call's
  have hownIn : ∀ (j n b c sz : Nat), st1.len[j]? = some n → G0'.hist j n = some (b, c, sz) → (G.pob b ∨ G.w0.heap.size ≤ b) ∧ b ∉ (G.outer G0' st ρ κ).ref ∧ (G0'.dat b).length = n * sz ∧ ∃ us, World.row w' b us ∧ us.length = c * sz ∧ c ≤ maxLen := by
    intro j n b c sz e e2
    obtain ⟨h1, h2, h3⟩ := hi1.own j n e b c sz e2
    rw [hle0.w0, hle0.pob] at h1
    have h4 : (G.pob b ∨ G.w0.heap.size ≤ b) ∧ b ∉ G.ref := by
      rcases h1 with h1 | h1
      · exact ⟨(hpob b h1).2.1, (hpob b h1).2.2⟩
      · have h1' : w.heap.size ≤ b := h1
        refine ⟨.inr (Nat.le_trans hi.kept.size h1), fun hm => ?_⟩
        obtain ⟨r, hr⟩ := idx_mem hm
        have := hi.ref_lt hr
        omega
    refine ⟨h4.1, fun hm => ?_, h3⟩
    rcases List.mem_append.1 hm with hm | hm
    · exact h4.2 hm
    · exact h2 (List.mem_of_mem_drop hm)
  -- an object that the call does not know
  have hownOut : ∀ (k n b c sz : Nat), k ∉ κ → st.len[k]? = some n → G.hist k n = some (b, c, sz) → b < w.heap.size ∧ ¬ (G.part st w ρ κ).pub b ∧ ¬ (G.part st w ρ κ).pob b := by
    intro k n b c sz hk e e2
    obtain ⟨h1, h2, _, us, h3, _⟩ := hi.own k n e b c sz e2
    refine ⟨row_lt h3, ?_, ?_⟩
    · rintro ⟨i, r, _, h5⟩
      exact h2 (List.mem_of_getElem? h5)
    · rintro ⟨j, k', n', c', sz', h4, h5, h6⟩
      have := hi.apart k k' n n' b c sz c' sz' e h5 e2 h6
      subst this
      exact hk (List.mem_of_getElem? h4)
  -- the lengths, told apart
  have hlenO : ∀ (k n : Nat), (merge ρ κ st st1).len[k]? = some n → (∃ j : Nat, κ[j]? = some k ∧ st1.len[j]? = some n) ∨ (k ∉ κ ∧ k < st.len.length ∧ st.len[k]? = some n) ∨ (st.len.length ≤ k ∧ st1.len[κ.length + (k - st.len.length)]? = some n) := by
    intro k n e
    rcases Nat.lt_or_ge k st.len.length with hkl | hkl
    · by_cases hk : k ∈ κ
      · obtain ⟨j, hj⟩ := idx_mem hk
        have hj1 : j < st1.len.length := Nat.lt_of_lt_of_le (List.getElem?_eq_some_iff.1 hj).1 hκ1
        have := mergeL_at (old := st.len) hκn hj (List.getElem?_eq_getElem hj1) hkl
        have e' : (mergeL κ st.len st1.len)[k]? = some n := e
        rw [this] at e'
        injection e' with e'
        exact .inl ⟨j, hj, by rw [List.getElem?_eq_getElem hj1, e']⟩
      · have e' : (mergeL κ st.len st1.len)[k]? = some n := e
        rw [mergeL_other hk hkl] at e'
        exact .inr (.inl ⟨hk, hkl, e'⟩)
    · have e' : (mergeL κ st.len st1.len)[k]? = some n := e
      rw [mergeL_new hkl] at e'
      exact .inr (.inr ⟨hkl, e'⟩)
  have hinv : Inv (G.outer G0' st ρ κ) (merge ρ κ st st1) w' := by
    refine ⟨⟨hk1.os.trans hi.kept.os, hk1.tape.trans hi.kept.tape, hk1.output.trans hi.kept.output, Nat.le_trans hi.kept.size hk1.size, ?_⟩, hi1.dat, ?_, ?_, ?_, ?_, ?_, ?_, hi.laid⟩
    · intro b hb h1 h2
      have hb' : b < G.w0.heap.size := hb
      have hbw : b < w.heap.size := Nat.lt_of_lt_of_le hb hi.kept.size
      have := (hsame b hbw (fun hp => by
        rcases (hpub b hp).2 with h | h
        · exact h1 h
        · omega) (fun hp => by
        rcases (hpob b hp).2.1 with h | h
        · exact h2 h
        · omega)).1
      rw [this]
      exact hi.kept.block b hb h1 h2
    · show (G.ref ++ G0'.ref.drop ρ.length).length = (mergeL ρ st.box _).length
      rw [mergeL_length hρ1, List.length_append, List.length_drop, hi.rlen, hi1.rlen]
      simp
    · intro r b e
      rcases Nat.lt_or_ge r G.ref.length with hr | hr
      · have e' : G.ref[r]? = some b := by
          have e'' : (G.ref ++ G0'.ref.drop ρ.length)[r]? = some b := e
          rwa [List.getElem?_append_left hr] at e''
        have hbw := hi.ref_lt e'
        by_cases hrm : r ∈ ρ
        · obtain ⟨i, hir⟩ := idx_mem hrm
          obtain ⟨_, h2, cs, us, h3, h4, h5, h6⟩ := hi1.box i b (hrefA i r b hir e')
          refine ⟨(hi.box r b e').1, h2, PVs.ren _ _ cs, us, ?_, h4, hbacks h5, ?_⟩
          · exact mergeL_at hρn hir (by rw [List.getElem?_map, h3]; rfl) (by rw [← hi.rlen]; exact hr)
          · intro x hx
            rw [PVs.ren_map] at hx
            obtain ⟨z, hz, rfl⟩ := List.mem_map.1 hx
            rw [PV.ren_isCell]
            exact h6 z hz
        · obtain ⟨h1, h2, cs, us, h3, ⟨T, h4⟩, h5, h6⟩ := hi.box r b e'
          have hs := hsame b hbw (by
            rintro ⟨i, r', h7, h8⟩
            have := nodup_inj hi.inj h8 e'
            subst this
            exact hrm (List.mem_of_getElem? h7)) (fun hp => (hpob b hp).2.2 (List.mem_of_getElem? e'))
          refine ⟨h1, by show G0'.dat b = []; rw [hs.2]; exact h2, cs, us, ?_, ⟨T, by rw [hs.1]; exact h4⟩, h5.mono hle, h6⟩
          show (mergeL ρ st.box _)[r]? = _
          rw [mergeL_other hrm (by rw [← hi.rlen]; exact hr)]
          exact h3
      · have e' : G0'.ref[ρ.length + (r - G.ref.length)]? = some b := by
          have e'' : (G.ref ++ G0'.ref.drop ρ.length)[r]? = some b := e
          rwa [List.getElem?_append_right hr, List.getElem?_drop] at e''
        obtain ⟨_, h2, cs, us, h3, h4, h5, h6⟩ := hi1.box _ b e'
        refine ⟨.inr (Nat.le_trans hi.kept.size (hnew _ b (by omega) e')), h2, PVs.ren _ _ cs, us, ?_, h4, hbacks h5, ?_⟩
        · show (mergeL ρ st.box _)[r]? = _
          rw [mergeL_new (by rw [← hi.rlen]; exact hr), ← hi.rlen, List.getElem?_map, h3]
          rfl
        · intro x hx
          rw [PVs.ren_map] at hx
          obtain ⟨z, hz, rfl⟩ := List.mem_map.1 hx
          rw [PV.ren_isCell]
          exact h6 z hz
    · show (G.ref ++ G0'.ref.drop ρ.length).Nodup
      rw [List.nodup_append]
      refine ⟨hi.inj, (List.drop_sublist _ _).nodup hi1.inj, ?_⟩
      rintro b hb b' hb' rfl
      obtain ⟨r, hr⟩ := idx_mem hb
      obtain ⟨i, h1, h2⟩ := hdrop b hb'
      have h3 := hi.ref_lt hr
      have h4 := hnew i b h1 h2
      omega
    · intro k n e b c sz e2
      rcases hlenO k n e with ⟨j, hj, e3⟩ | ⟨hk, hkl, e3⟩ | ⟨hkl, e3⟩
      · rw [hhistκ j k n hj] at e2
        exact hownIn j n b c sz e3 e2
      · rw [hhistO k n hk hkl] at e2
        obtain ⟨h1, h2, h3⟩ := hownOut k n b c sz hk e3 e2
        obtain ⟨h4, h5, h6, us, ⟨T, h7⟩, h8⟩ := hi.own k n e3 b c sz e2
        have hs := hsame b h1 h2 h3
        exact ⟨h4, hrefnot b h1 h5, by show (G0'.dat b).length = _; rw [hs.2]; exact h6, us, ⟨T, by rw [hs.1]; exact h7⟩, h8⟩
      · rw [hhistN k n hkl] at e2
        exact hownIn _ n b c sz e3 e2
    · have hcross : ∀ (k n b c sz j n' c' sz' : Nat), k ∉ κ → st.len[k]? = some n → G.hist k n = some (b, c, sz) → st1.len[j]? = some n' → G0'.hist j n' = some (b, c', sz') → False := by
        intro k n b c sz j n' c' sz' hk e e2 e3 e4
        obtain ⟨h1, h2, h3⟩ := hownOut k n b c sz hk e e2
        obtain ⟨h4, _⟩ := hi1.own j n' e3 b c' sz' e4
        rw [hle0.w0, hle0.pob] at h4
        rcases h4 with h4 | h4
        · exact h3 h4
        · have h4' : w.heap.size ≤ b := h4
          omega
      intro k k' n n' b c sz c' sz' e e' e2 e2'
      rcases hlenO k n e with ⟨j, hj, e3⟩ | ⟨hk, hkl, e3⟩ | ⟨hkl, e3⟩ <;> rcases hlenO k' n' e' with ⟨j', hj', e3'⟩ | ⟨hk', hkl', e3'⟩ | ⟨hkl', e3'⟩
      · rw [hhistκ j k n hj] at e2
        rw [hhistκ j' k' n' hj'] at e2'
        have := hi1.apart j j' n n' b c sz c' sz' e3 e3' e2 e2'
        subst this
        rw [hj] at hj'
        injection hj'
      · rw [hhistκ j k n hj] at e2
        rw [hhistO k' n' hk' hkl'] at e2'
        exact (hcross k' n' b c' sz' j n c sz hk' e3' e2' e3 e2).elim
      · rw [hhistκ j k n hj] at e2
        rw [hhistN k' n' hkl'] at e2'
        have := hi1.apart j _ n n' b c sz c' sz' e3 e3' e2 e2'
        have := (List.getElem?_eq_some_iff.1 hj).1
        omega
      · rw [hhistO k n hk hkl] at e2
        rw [hhistκ j' k' n' hj'] at e2'
        exact (hcross k n b c sz j' n' c' sz' hk e3 e2 e3' e2').elim
      · rw [hhistO k n hk hkl] at e2
        rw [hhistO k' n' hk' hkl'] at e2'
        exact hi.apart k k' n n' b c sz c' sz' e3 e3' e2 e2'
      · rw [hhistO k n hk hkl] at e2
        rw [hhistN k' n' hkl'] at e2'
        exact (hcross k n b c sz _ n' c' sz' hk e3 e2 e3' e2').elim
      · rw [hhistN k n hkl] at e2
        rw [hhistκ j' k' n' hj'] at e2'
        have := hi1.apart _ j' n n' b c sz c' sz' e3 e3' e2 e2'
        have := (List.getElem?_eq_some_iff.1 hj').1
        omega
      · rw [hhistN k n hkl] at e2
        rw [hhistO k' n' hk' hkl'] at e2'
        exact (hcross k' n' b c' sz' _ n c sz hk' e3' e2' e3 e2).elim
      · rw [hhistN k n hkl] at e2
        rw [hhistN k' n' hkl'] at e2'
        have := hi1.apart _ _ n n' b c sz c' sz' e3 e3' e2 e2'
        omega
    · intro k n e
      rcases Nat.lt_or_ge k st.len.length with hkl | hkl
      · by_cases hk : k ∈ κ
        · obtain ⟨j, hj⟩ := idx_mem hk
          rw [hhistκ j k n hj]
          refine hi1.fresh j n fun q hq => e q ?_
          exact mergeL_at hκn hj hq hkl
        · rw [hhistO k n hk hkl]
          refine hi.fresh k n fun q hq => e q ?_
          show (mergeL κ st.len st1.len)[k]? = _
          rw [mergeL_other hk hkl]
          exact hq
      · rw [hhistN k n hkl]
        refine hi1.fresh _ n fun q hq => e q ?_
        show (mergeL κ st.len st1.len)[k]? = _
        rw [mergeL_new hkl]
        exact hq
  refine ⟨_, _, _, hle, hinv, hback hr0, ⟨r0, st1, hR, hbl1, by omega, rfl, rfl⟩, ?_⟩
  show st.len.length ≤ (mergeL κ st.len st1.len).length
  rw [mergeL_length hκ1]
  omega
end Go.Proofs.YtolhbjfaahcekaaDoor
end
section
/- How a contract is used at a call. -/
set_option linter.unusedVariables false
set_option linter.unusedSimpArgs false
namespace Go.Proofs.YtolhbjfaahcekaaDoor

mutual
theorem PV.clean_data {n m : Nat} : ∀ {x : PV}, PV.clean 0 0 x = true → PV.clean n m x = true
  | .list sz xs t, h => by
    simp only [PV.clean, Bool.and_eq_true] at h ⊢
    refine ⟨?_, PVs.clean_data h.2⟩
    cases t <;> simp_all
  | .ref r o, h => by simp [PV.clean] at h
  | .elem x, h => by simp only [PV.clean] at h ⊢; exact PV.clean_data h
  | .agg cs, h => by simp only [PV.clean] at h ⊢; exact PVs.clean_data h
  | .tup cs, h => by simp only [PV.clean] at h ⊢; exact PVs.clean_data h
  | .clo fn fs cs, h => by
    simp only [PV.clean, Bool.and_eq_true] at h ⊢
    exact ⟨PVs.clean_data h.1, PVs.clean_data h.2⟩
  | .int k n, _ => rfl
  | .bool b, _ => rfl
  | .str l, _ => rfl
  | .val v, _ => rfl
theorem PVs.clean_data {n m : Nat} : ∀ {xs : List PV}, PVs.clean 0 0 xs = true → PVs.clean n m xs = true
  | [], _ => rfl
  | x :: xs, h => by
    simp only [PVs.clean, Bool.and_eq_true] at h ⊢
    exact ⟨PV.clean_data h.1, PVs.clean_data h.2⟩
end

section
variable {P : Program} {f : FuncId}
/-- The variables and objects that a call is told of, outside. -/
def BoxesAt (st : St) (ρ κ : Nat → Nat) : List Nat → List (List PV) → Prop
  | [], [] => True
  | r :: rs, cs :: css => st.box[r]? = some (PVs.ren ρ κ cs) ∧ BoxesAt st ρ κ rs css
  | _, _ => False
def LensAt (st : St) : List Nat → List Nat → Prop
  | [], [] => True
  | k :: ks, n :: ns => st.len[k]? = some n ∧ LensAt st ks ns
  | _, _ => False
theorem BoxesAt.len {st : St} {ρ κ : Nat → Nat} : ∀ {rs : List Nat} {css : List (List PV)}, BoxesAt st ρ κ rs css → rs.length = css.length
  | [], [], _ => rfl
  | _ :: _, _ :: _, h => by simp [BoxesAt.len h.2]
  | [], _ :: _, h => h.elim
  | _ :: _, [], h => h.elim
theorem BoxesAt.get {st : St} {ρ κ : Nat → Nat} : ∀ {rs : List Nat} {css : List (List PV)}, BoxesAt st ρ κ rs css → ∀ (i : Nat) cs, css[i]? = some cs → ∃ r, rs[i]? = some r ∧ st.box[r]? = some (PVs.ren ρ κ cs)
  | [], [], _, i, cs, e => by simp at e
  | r :: rs, c :: css, h, 0, cs, e => by simp at e; subst e; exact ⟨r, rfl, h.1⟩
  | r :: rs, c :: css, h, i + 1, cs, e => by
    obtain ⟨q, h1, h2⟩ := BoxesAt.get h.2 i cs (by simpa using e)
    exact ⟨q, by simpa using h1, h2⟩
  | [], _ :: _, h, _, _, _ => h.elim
  | _ :: _, [], h, _, _, _ => h.elim
theorem LensAt.len {st : St} : ∀ {ks ns : List Nat}, LensAt st ks ns → ks.length = ns.length
  | [], [], _ => rfl
  | _ :: _, _ :: _, h => by simp [LensAt.len h.2]
  | [], _ :: _, h => h.elim
  | _ :: _, [], h => h.elim
theorem LensAt.get {st : St} : ∀ {ks ns : List Nat}, LensAt st ks ns → ∀ (j n : Nat), ns[j]? = some n → ∃ k, ks[j]? = some k ∧ st.len[k]? = some n
  | [], [], _, j, n, e => by simp at e
  | k :: ks, m :: ns, h, 0, n, e => by simp at e; subst e; exact ⟨k, rfl, h.1⟩
  | k :: ks, m :: ns, h, j + 1, n, e => by
    obtain ⟨q, h1, h2⟩ := LensAt.get h.2 j n (by simpa using e)
    exact ⟨q, by simpa using h1, h2⟩
  | [], _ :: _, h, _, _, _ => h.elim
  | _ :: _, [], h, _, _, _ => h.elim
theorem nodup_of {xs : List Nat} (h : decide xs.Nodup = true) : xs.Nodup := of_decide_eq_true h
/-- A contract at a call: ρ, κ: where the contract's variables and objects lie here. -/
theorem PC.use {args0 args : List PV} {st0 st : St} {R K : PV → St → Prop} (h : PC P f args0 st0 R) (ρ κ : List Nat) (hρ : decide ρ.Nodup = true) (hκ : decide κ.Nodup = true)
    (hb : BoxesAt st (out ρ st.box.length) (out κ st.len.length) ρ st0.box) (hl : LensAt st κ st0.len)
    (ha : Weaks args (PVs.ren (out ρ st.box.length) (out κ st.len.length) args0)) (hca : PVs.clean ρ.length κ.length args0 = true) (hcb : ∀ cs ∈ st0.box, PVs.clean ρ.length κ.length cs = true)
    (hk : ∀ r0 st1, R r0 st1 → st0.box.length ≤ st1.box.length → st0.len.length ≤ st1.len.length → K (PV.ren (out ρ st.box.length) (out κ st.len.length) r0) (merge ρ κ st st1)) : PC P f args st K := by
  refine PC.weak ((PC.frame h ρ κ st hb.len hl.len (nodup_of hρ) (nodup_of hκ) hb.get hl.get hca hcb).mono ?_) ha
  rintro r st' ⟨r0, st1, h1, h2, h3, rfl, rfl⟩
  exact hk r0 st1 h1 h2 h3
/-- A function that makes a value of values. -/
def Pure (P : Program) (f : FuncId) (args : List PV) (x : PV) : Prop := PC P f args ⟨[], []⟩ fun r st' => r = x ∧ st' = ⟨[], []⟩
theorem Pure.use {args0 args : List PV} {x : PV} (h : Pure P f args0 x) {st : St} {K : PV → St → Prop} (ha : Weaks args args0) (hc : PVs.clean 0 0 args0 = true) (hx : PV.clean 0 0 x = true) (hk : K x st) : PC P f args st K := by
  refine PC.use h [] [] rfl rfl trivial trivial (by rw [PVs.ren_data hc]; exact ha) hc (by simp) ?_
  rintro r0 st1 ⟨rfl, rfl⟩ _ _
  rw [PV.ren_data hx]
  simpa [merge, mergeL, setAll] using hk
/-- A function that is told of one variable, of values alone. -/
def One (P : Program) (f : FuncId) (args : List PV) (cs : List PV) (R : PV → List PV → Prop) : Prop := PC P f args ⟨[cs], []⟩ fun r st' => ∃ cs', st' = ⟨[cs'], []⟩ ∧ R r cs' ∧ PV.clean 0 0 r = true ∧ PVs.clean 0 0 cs' = true
theorem One.use {ags args : List PV} {cs : List PV} {R : PV → List PV → Prop} (h : One P f (.ref 0 0 :: ags) cs R) {st : St} {K : PV → St → Prop} (r : Nat) (hb : st.box[r]? = some cs) (ha : Weaks args ags) (hca : PVs.clean 0 0 ags = true) (hcc : PVs.clean 0 0 cs = true)
    (hk : ∀ x cs', R x cs' → PV.clean 0 0 x = true → PVs.clean 0 0 cs' = true → K x { st with box := st.box.set r cs' }) : PC P f (.ref r 0 :: args) st K := by
  refine PC.use h [r] [] (by simp) rfl ⟨by rw [PVs.ren_data hcc]; exact hb, trivial⟩ trivial ?_ ?_ ?_ ?_
  · rw [PVs.ren, PVs.ren_data hca]
    exact .cons (by simp [PV.ren, out]) ha
  · simp only [PVs.clean, PV.clean, List.length_cons, List.length_nil, PVs.clean_data hca]
    rfl
  · intro cs' hc
    simp at hc
    subst hc
    exact PVs.clean_data hcc
  · rintro r0 st1 ⟨cs', rfl, h1, h2, h3⟩ _ _
    rw [PV.ren_data h2]
    have := hk r0 cs' h1 h2 h3
    simpa [merge, mergeL, setAll, PVs.ren_data h3] using this

theorem One.fin {tt : TTab} {rs : List ResultVar} {cs cs' : List PV} {rest : List (List PV)} {len : List Nat} {R : PV → List PV → Prop} {env : Env} {xs : List PV} {e : Exit} (he : e = .ret ∨ e = .normal) (hr : resAll tt env ⟨cs' :: rest, len⟩ rs = some xs) (hR : R (resPV xs) cs') (hx : PV.clean 0 0 (resPV xs) = true)
    (hc : PVs.clean 0 0 cs' = true) (hcell : cs'.all PV.isCell = true) : Ends tt rs ⟨[cs], []⟩ (fun r st' => ∃ cs', st' = ⟨[cs'], []⟩ ∧ R r cs' ∧ PV.clean 0 0 r = true ∧ PVs.clean 0 0 cs' = true) e env ⟨cs' :: rest, len⟩ := by
  refine ⟨he, xs, resPV xs, ⟨[cs'], []⟩, hr, .refl _, ⟨?_, by simp, ?_⟩, by simp, by simp, PV.clean_data hx, cs', rfl, hR, hx, hc⟩
  · simp only [List.length_cons, List.length_nil, List.take_succ_cons, List.take_zero, boxes_cons, boxes_nil, and_true]
    exact ⟨Weaks.refl _, by simpa using hcell⟩
  · intro c h
    simp at h
    subst h
    exact PVs.clean_data hc
theorem One.ret {tt : TTab} {rs : List ResultVar} {cs cs' : List PV} {rest : List (List PV)} {len : List Nat} {R : PV → List PV → Prop} {env : Env} {xs : List PV} (hr : resAll tt env ⟨cs' :: rest, len⟩ rs = some xs) (hR : R (resPV xs) cs') (hx : PV.clean 0 0 (resPV xs) = true)
    (hc : PVs.clean 0 0 cs' = true) (hcell : cs'.all PV.isCell = true) : Ends tt rs ⟨[cs], []⟩ (fun r st' => ∃ cs', st' = ⟨[cs'], []⟩ ∧ R r cs' ∧ PV.clean 0 0 r = true ∧ PVs.clean 0 0 cs' = true) .ret env ⟨cs' :: rest, len⟩ := One.fin (.inl rfl) hr hR hx hc hcell
theorem One.done {tt : TTab} {rs : List ResultVar} {cs cs' : List PV} {rest : List (List PV)} {len : List Nat} {R : PV → List PV → Prop} {env : Env} {xs : List PV} (hr : resAll tt env ⟨cs' :: rest, len⟩ rs = some xs) (hR : R (resPV xs) cs') (hx : PV.clean 0 0 (resPV xs) = true)
    (hc : PVs.clean 0 0 cs' = true) (hcell : cs'.all PV.isCell = true) : Ends tt rs ⟨[cs], []⟩ (fun r st' => ∃ cs', st' = ⟨[cs'], []⟩ ∧ R r cs' ∧ PV.clean 0 0 r = true ∧ PVs.clean 0 0 cs' = true) .normal env ⟨cs' :: rest, len⟩ := One.fin (.inr rfl) hr hR hx hc hcell
/-- A function of values ends. -/
theorem Pure.fin {tt : TTab} {rs : List ResultVar} {x : PV} {env : Env} {st : St} {xs : List PV} {e : Exit} (he : e = .ret ∨ e = .normal) (hr : resAll tt env st rs = some xs) (hR : resPV xs = x) (hx : PV.clean 0 0 x = true) :
    Ends tt rs ⟨[], []⟩ (fun r st' => r = x ∧ st' = ⟨[], []⟩) e env st :=
  ⟨he, xs, x, ⟨[], []⟩, hr, by rw [hR]; exact .refl _, ⟨by simp, by simp, by simp⟩, by simp, by simp, hx, rfl, rfl⟩
theorem Pure.ret {tt : TTab} {rs : List ResultVar} {x : PV} {env : Env} {st : St} {xs : List PV} (hr : resAll tt env st rs = some xs) (hR : resPV xs = x) (hx : PV.clean 0 0 x = true) :
    Ends tt rs ⟨[], []⟩ (fun r st' => r = x ∧ st' = ⟨[], []⟩) .ret env st := Pure.fin (.inl rfl) hr hR hx
theorem Pure.done {tt : TTab} {rs : List ResultVar} {x : PV} {env : Env} {st : St} {xs : List PV} (hr : resAll tt env st rs = some xs) (hR : resPV xs = x) (hx : PV.clean 0 0 x = true) :
    Ends tt rs ⟨[], []⟩ (fun r st' => r = x ∧ st' = ⟨[], []⟩) .normal env st := Pure.fin (.inr rfl) hr hR hx
end
end Go.Proofs.YtolhbjfaahcekaaDoor
end
section
/- The rules as a function: what it gives, the machine comes to. -/
set_option linter.unusedVariables false
set_option linter.unusedSimpArgs false
namespace Go.Proofs.YtolhbjfaahcekaaDoor

theorem cells_int (k : IntKind) (n : Int) : PV.cells (.int k n) = [.int k n] := rfl
theorem isAgg_int (k : IntKind) (n : Int) : PV.isAgg (.int k n) = false := rfl
theorem isCell_int (k : IntKind) (n : Int) : PV.isCell (.int k n) = true := rfl
theorem cells_bool (b : Bool) : PV.cells (.bool b) = [.bool b] := rfl
theorem isAgg_bool (b : Bool) : PV.isAgg (.bool b) = false := rfl
theorem isCell_bool (b : Bool) : PV.isCell (.bool b) = true := rfl
theorem cells_str (l : List UInt8) : PV.cells (.str l) = [.str l] := rfl
theorem isAgg_str (l : List UInt8) : PV.isAgg (.str l) = false := rfl
theorem isCell_str (l : List UInt8) : PV.isCell (.str l) = true := rfl
theorem cells_list (sz : Nat) (xs : List PV) (t : Tk) : PV.cells (.list sz xs t) = [.list sz xs t] := rfl
theorem isAgg_list (sz : Nat) (xs : List PV) (t : Tk) : PV.isAgg (.list sz xs t) = false := rfl
theorem isCell_list (sz : Nat) (xs : List PV) (t : Tk) : PV.isCell (.list sz xs t) = true := rfl
theorem cells_ref (r o : Nat) : PV.cells (.ref r o) = [.ref r o] := rfl
theorem isAgg_ref (r o : Nat) : PV.isAgg (.ref r o) = false := rfl
theorem isCell_ref (r o : Nat) : PV.isCell (.ref r o) = true := rfl
theorem cells_elem (x : PV) : PV.cells (.elem x) = [.elem x] := rfl
theorem isAgg_elem (x : PV) : PV.isAgg (.elem x) = false := rfl
theorem isCell_elem (x : PV) : PV.isCell (.elem x) = true := rfl
theorem cells_agg (cs : List PV) : PV.cells (.agg cs) = cs := rfl
theorem isAgg_agg (cs : List PV) : PV.isAgg (.agg cs) = true := rfl
theorem isCell_agg (cs : List PV) : PV.isCell (.agg cs) = false := rfl
theorem cells_tup (cs : List PV) : PV.cells (.tup cs) = [.tup cs] := rfl
theorem isAgg_tup (cs : List PV) : PV.isAgg (.tup cs) = false := rfl
theorem isCell_tup (cs : List PV) : PV.isCell (.tup cs) = false := rfl
theorem cells_clo (f : Fn) (a b : List PV) : PV.cells (.clo f a b) = [.clo f a b] := rfl
theorem isAgg_clo (f : Fn) (a b : List PV) : PV.isAgg (.clo f a b) = false := rfl
theorem isCell_clo (f : Fn) (a b : List PV) : PV.isCell (.clo f a b) = true := rfl
theorem cells_val (v : Value) : PV.cells (.val v) = [.val v] := rfl
theorem isAgg_val (v : Value) : PV.isAgg (.val v) = false := rfl
theorem isCell_val (v : Value) : PV.isCell (.val v) = v.oneCell' := rfl
def eg : Env → Nat → Option PV
  | [], _ => none
  | (j, x) :: r, i => bif i == j then some x else eg r i
theorem eg_eq : ∀ (env : Env) (i : Nat), eg env i = eget env i
  | [], _ => rfl
  | (j, x) :: r, i => by
    simp only [eg, eget, eg_eq r i]
    by_cases h : i = j
    · subst h; simp
    · have : (i == j) = false := by simpa using h
      simp [this, h]
def vl (env : Env) : Operand → Option PV
  | .tmp t => eg env t
  | .const v => some (ofC v)
  | .func f => some (.clo (.func f) [] [])
  | .global _ => none
theorem vl_eq (env : Env) (o : Operand) : vl env o = ev env o := by cases o <;> simp [vl, ev, eg_eq]
def vls (env : Env) : List Operand → Option (List PV)
  | [] => some []
  | o :: os => match vl env o with
    | some x => match vls env os with
      | some xs => some (x :: xs)
      | none => none
    | none => none
theorem vls_eq (env : Env) : ∀ os, vls env os = evs env os
  | [] => rfl
  | o :: os => by
    simp only [vls, evs, vl_eq, vls_eq env os]
    cases ev env o <;> cases evs env os <;> rfl
def vlParts (env : Env) : List (Nat × Operand) → Option (List (Nat × PV))
  | [] => some []
  | (i, o) :: os => match vl env o with
    | some x => match vlParts env os with
      | some xs => some ((i, x) :: xs)
      | none => none
    | none => none
theorem vlParts_eq (env : Env) : ∀ os, vlParts env os = evParts env os
  | [] => rfl
  | (i, o) :: os => by
    simp only [vlParts, evParts, vl_eq, vlParts_eq env os]
    cases ev env o <;> cases evParts env os <;> rfl
def vlo (env : Env) : Option Operand → Option (Option PV)
  | none => some none
  | some o => match vl env o with
    | some x => some (some x)
    | none => none
theorem vlo_eq (env : Env) (o : Option Operand) : vlo env o = evo env o := by
  cases o with
  | none => rfl
  | some o => simp only [vlo, evo, vl_eq]; cases ev env o <;> rfl

def fBin (op : BinOp) (x y : PV) : Option PV :=
  match x, y with
  | .int k a, .int k' b =>
    match op with
    | .shl => if 0 ≤ b then some (.int k (k.wrap (a * 2 ^ min b.toNat k.bits))) else none
    | .shr => if 0 ≤ b then some (.int k (a.fdiv (2 ^ min b.toNat k.bits))) else none
    | .add => if k = k' then some (.int k (k.wrap (a + b))) else none
    | .sub => if k = k' then some (.int k (k.wrap (a - b))) else none
    | .mul => if k = k' then some (.int k (k.wrap (a * b))) else none
    | .quo => if k = k' then (if b ≠ 0 then some (.int k (k.wrap (a.tdiv b))) else none) else none
    | .rem => if k = k' then (if b ≠ 0 then some (.int k (a.tmod b)) else none) else none
    | .eql => if k = k' then some (.bool (a == b)) else none
    | .neq => if k = k' then some (.bool (a != b)) else none
    | .lss => if k = k' then some (.bool (decide (a < b))) else none
    | .leq => if k = k' then some (.bool (decide (a ≤ b))) else none
    | .gtr => if k = k' then some (.bool (decide (a > b))) else none
    | .geq => if k = k' then some (.bool (decide (a ≥ b))) else none
    | op => if k = k' then some (.int k (bitsPV op k a b)) else none
  | .str a, .str b =>
    match op with
    | .add => if a.length + b.length ≤ 9223372036854775807 then some (.str (a ++ b)) else none
    | .eql => some (.bool (a == b))
    | .neq => some (.bool (!(a == b)))
    | .lss => some (.bool (Op.bytesLess a b))
    | .leq => some (.bool (Op.bytesLess a b || a == b))
    | .gtr => some (.bool (!(Op.bytesLess a b || a == b)))
    | .geq => some (.bool (!(Op.bytesLess a b)))
    | _ => none
  | _, _ => none
theorem fBin_ok {op : BinOp} {x y r : PV} (h : fBin op x y = some r) {K : PV → Prop} (hk : K r) : pBin op x y K := by
  unfold fBin at h
  unfold pBin
  split at h
  · cases op <;> simp only at h ⊢ <;> (repeat' split at h) <;> first
      | (injection h with h; subst h; first | exact ⟨by assumption, hk⟩ | exact ⟨by assumption, by assumption, hk⟩)
      | cases h
  · cases op <;> simp only at h ⊢ <;> (repeat' split at h) <;> first
      | (injection h with h; subst h; first | exact hk | exact ⟨by assumption, hk⟩)
      | cases h
  · cases h
def fCut (x : PV) (lo hi : Option PV) : Option PV :=
  match x with
  | .str l => match lo, hi with
    | none, none => some (.str l)
    | some (.int _ a), none => if 0 ≤ a ∧ a ≤ l.length then some (.str (l.drop a.toNat)) else none
    | none, some (.int _ b) => if 0 ≤ b ∧ b ≤ l.length then some (.str (l.take b.toNat)) else none
    | some (.int _ a), some (.int _ b) => if 0 ≤ a ∧ a ≤ b ∧ b ≤ l.length then some (.str ((l.take b.toNat).drop a.toNat)) else none
    | _, _ => none
  | .list sz xs _ => match lo, hi with
    | none, none => some (.list sz xs .no)
    | some (.int _ a), none => if 0 ≤ a ∧ a ≤ xs.length then some (.list sz (xs.drop a.toNat) .no) else none
    | none, some (.int _ b) => if 0 ≤ b ∧ b ≤ xs.length then some (.list sz (xs.take b.toNat) .no) else none
    | some (.int _ a), some (.int _ b) => if 0 ≤ a ∧ a ≤ b ∧ b ≤ xs.length then some (.list sz ((xs.take b.toNat).drop a.toNat) .no) else none
    | _, _ => none
  | _ => none
theorem fCut_ok {x r : PV} {lo hi : Option PV} (h : fCut x lo hi = some r) {K : PV → Prop} (hk : K r) : pCut x lo hi K := by
  unfold fCut at h
  unfold pCut
  (repeat' split at h) <;> first
    | (injection h with h; subst h; first | exact hk | (rename_i hc; exact ⟨hc.1, hc.2, hk⟩) | (rename_i hc; exact ⟨hc.1, hc.2.1, hc.2.2, hk⟩))
    | cases h
def fField (y : TyI) (f : Nat) (p : PV) : Option PV :=
  match p with
  | .ref r o => match y.flds[f]? with
    | some (off, n, _) => bif n == 0 then none else some (.ref r (o + off))
    | none => none
  | .elem (.agg cs) => match y.flds[f]? with
    | some (off, n, true) => bif n == 0 then none else (if off + n ≤ cs.length then some (.elem (.agg ((cs.drop off).take n))) else none)
    | some (off, n, false) => bif n == 0 then none else (match cs[off]? with | some c => some (.elem c) | none => none)
    | none => none
  | _ => none
theorem ne_of_beq {n : Nat} {α : Type} {x : Option α} {r : α} (h : (bif n == 0 then none else x) = some r) : n ≠ 0 ∧ x = some r := by
  cases n with
  | zero => cases h
  | succ n => exact ⟨by simp, by simpa using h⟩
theorem fField_ok {y : TyI} {f : Nat} {p r : PV} (h : fField y f p = some r) {K : PV → Prop} (hk : K r) : pFieldAddr y f p K := by
  unfold fField at h
  unfold pFieldAddr
  split at h
  · split at h
    · rename_i hf
      obtain ⟨h1, h2⟩ := ne_of_beq h
      injection h2 with h2
      subst h2
      simp only [hf]
      exact ⟨h1, hk⟩
    · cases h
  · split at h
    · rename_i hf
      obtain ⟨h1, h2⟩ := ne_of_beq h
      split at h2
      · injection h2 with h2
        subst h2
        simp only [hf]
        exact ⟨h1, by assumption, hk⟩
      · cases h2
    · rename_i hf
      obtain ⟨h1, h2⟩ := ne_of_beq h
      split at h2
      · injection h2 with h2
        subst h2
        simp only [hf]
        exact ⟨h1, _, by assumption, hk⟩
      · cases h2
    · cases h
  · cases h

/-- An operation that is no call: what it makes of the temporaries and the state. -/
def stepF (tt : TTab) (ow : List Nat) (nt : Nat) (o : Oper) (env : Env) (st : St) : Option (Env × St) :=
  match o.op with
  | .move x | .assign x => match vl env x with
    | some a => some (put nt o.dst env a, st)
    | none => none
  | .pick c a b => match vl env c with
    | some (.bool t) => match vl env a, vl env b with
      | some (.bool x), some (.bool y) => some (put nt o.dst env (.bool (bif t then x else y)), st)
      | some x, some y => match t with
        | true => some (put nt o.dst env x, st)
        | false => some (put nt o.dst env y, st)
      | _, _ => none
    | _ => none
  | .alloc T => match tt T with
    | some y => some (put nt o.dst env (.ref st.box.length 0), { st with box := st.box ++ [y.zero] })
    | none => none
  | .box T x => match vl env x with
    | some a => match a.cells.all PV.isCell with
      | true => some (put nt o.dst env (.ref st.box.length 0), { st with box := st.box ++ [a.cells] })
      | false => none
    | none => none
  | .build T ps => match tt T with
    | some y => match y.k with
      | .struct => match vlParts env ps.toList with
        | some xs => match fillPV y.flds y.zero xs with
          | some cs => some (put nt o.dst env (.agg cs), st)
          | none => none
        | none => none
      | _ => none
    | none => none
  | .buildSlice T n ps => match tt T with
    | some y => match y.k with
      | .slice e => match tt e with
        | some ye => match vlParts env ps.toList with
          | some ps' => match dense 0 ps' with
            | some xs => if xs.length = n ∧ 0 < ye.size ∧ n * ye.size ≤ 16777216 ∧ (∀ x ∈ xs, x.cells.length = ye.size ∧ x.cells.all PV.isCell = true) then
                (match owns ow o.dst with
                | true => some (put nt o.dst env (.list ye.size xs (.own st.len.length)), { st with len := st.len ++ [n] })
                | false => some (put nt o.dst env (.list ye.size xs .no), st))
              else none
            | none => none
          | none => none
        | none => none
      | _ => none
    | none => none
  | .load T a => match vl env a with
    | some p => match tt T with
      | some y => match ldPV y st p with
        | some x => some (put nt o.dst env x, st)
        | none => none
      | none => none
    | none => none
  | .store T a v => match vl env a with
    | some p => match tt T with
      | some y => match vl env v with
        | some x => match stPV y st p x with
          | some st' => some (put nt o.dst env (.val undef), st')
          | none => none
        | none => none
      | none => none
    | none => none
  | .nilCheck x => match vl env x with
    | some p => match pNil p with
      | true => some (put nt o.dst env p, st)
      | false => none
    | none => none
  | .binOp op T x y _ => match vl env x with
    | some (.agg xs) => match vl env y with
      | some (.agg ys) => match tt T with
        | some yt => match yt.cmp with
          | true => match eqCells yt.zero xs ys with
            | some r => match op with
              | .eql => some (put nt o.dst env (.bool r), st)
              | .neq => some (put nt o.dst env (.bool (!r)), st)
              | _ => none
            | none => none
          | false => none
        | none => none
      | _ => none
    | some a => match vl env y with
      | some b => match fBin op a b with
        | some r => some (put nt o.dst env r, st)
        | none => match tt T with
          | some yt => match fNil op yt.k a b with
            | some r => some (put nt o.dst env (.bool r), st)
            | none => none
          | none => none
      | none => none
    | none => none
  | .unOp op _ x => match op, vl env x with
    | .not, some (.bool b) => some (put nt o.dst env (.bool (!b)), st)
    | .neg, some (.int k n) => some (put nt o.dst env (.int k (k.wrap (0 - n))), st)
    | _, _ => none
  | .convert s d x => match tt s with
    | some ys => match tt d with
      | some yd => match vl env x with
        | some (.int _ n) => match yd.k with
          | .int k => some (put nt o.dst env (.int k (k.wrap n)), st)
          | _ => none
        | some (.str l) => match yd.k with
          | .str => some (put nt o.dst env (.str l), st)
          | _ => none
        | _ => none
      | none => none
    | none => none
  | .makeFunc fn fs cs => match vls env fs.toList with
    | some us => match vls env cs.toList with
      | some vs => some (put nt o.dst env (.clo fn us vs), st)
      | none => none
    | none => none
  | .slice T x lo hi none => match tt T with
    | some y => match vl env x with
      | some a => match (match y.k, a with
          | .str, .str _ => true
          | .slice e, .list sz _ _ => match tt e with
            | some ye => ye.size == sz
            | none => false
          | _, _ => false) with
        | true => match vlo env lo with
          | some l => match vlo env hi with
            | some h => match fCut a l h with
              | some r => some (put nt o.dst env r, st)
              | none => none
            | none => none
          | none => none
        | false => none
      | none => none
    | none => none
  | .fieldAddr T x f => match tt T with
    | some y => match y.k with
      | .struct => match vl env x with
        | some p => match fField y f p with
          | some r => some (put nt o.dst env r, st)
          | none => none
        | none => none
      | _ => none
    | none => none
  | .field T x f => match tt T with
    | some y => match y.k with
      | .struct => match vl env x with
        | some (.agg cs) => match fldOf y f cs with
          | some r => some (put nt o.dst env r, st)
          | none => none
        | _ => none
      | _ => none
    | none => none
  | .indexAddr T x i => match tt T with
    | some y => match y.k with
      | .slice e => match tt e with
        | some ye => match vl env x with
          | some (.list sz xs t) => match sz == ye.size with
            | true => match vl env i with
              | some (.int k n) => if 0 ≤ n then (match xs[n.toNat]? with
                  | some z => some (put nt o.dst env (.elem z), st)
                  | none => none) else none
              | _ => none
            | false => none
          | _ => none
        | none => none
      | _ => none
    | none => none
  | .index T x i => match tt T with
    | some y => match y.k with
      | .str => match vl env x with
        | some (.str l) => match vl env i with
          | some (.int k n) => if 0 ≤ n then (match l[n.toNat]? with
              | some c => some (put nt o.dst env (.int .u8 (c.toNat : Int)), st)
              | none => none) else none
          | _ => none
        | _ => none
      | _ => none
    | none => none
  | .extract t i => match vl env t with
    | some (.tup cs) => match cs[i]? with
      | some x => some (put nt o.dst env x, st)
      | none => none
    | _ => none
  | .call c => match c.callee with
    | .builtin .len => match c.argTypes.toList, c.args.toList with
      | [T], [x] => match tt T with
        | some y => match vl env x with
          | some (.str l) => match y.k with
            | .str => some (put nt o.dst env (.int .i64 (l.length : Int)), st)
            | _ => none
          | some (.list _ xs _) => match y.k with
            | .slice _ => some (put nt o.dst env (.int .i64 (xs.length : Int)), st)
            | _ => none
          | _ => none
        | none => none
      | _, _ => none
    | .builtin .append => match c.argTypes.toList, c.args.toList with
      | [T, T'], [s, x] => match tt T with
        | some y => match y.k with
          | .slice e => match tt e with
            | some ye => match vl env s with
              | some (.list sz xs (.own k)) => match vl env x with
                | some (.list sz' ys t) => if T' = T ∧ sz = ye.size ∧ sz' = ye.size ∧ 0 < ye.size ∧ st.len[k]? = some xs.length ∧ (xs.length + ys.length) * ye.bytes ≤ 140737488355328 ∧ xs.length + ys.length ≤ maxLen then
                    some (put nt o.dst env (.list sz (xs ++ ys) (.own k)), { st with len := st.len.set k (xs.length + ys.length) })
                  else none
                | _ => none
              | _ => none
            | none => none
          | _ => none
        | none => none
      | _, _ => none
    | .builtin .max => match c.args.toList with
      | [x, y] => match vl env x with
        | some (.int k a) => match vl env y with
          | some (.int k' b) => if k' = k then some (put nt o.dst env (.int k (if b > a then b else a)), st) else none
          | _ => none
        | _ => none
      | _ => none
    | _ => none
  | _ => none

theorem stepF_ok {P : Program} {tt : TTab} {ow : List Nat} {nt : Nat} {o : Oper} {env env' : Env} {st st' : St} (h : stepF tt ow nt o env st = some (env', st')) {K : Env → St → Prop} (hk : K env' st') : pOp P tt ow nt o env st K := by
  unfold stepF at h
  simp only [vl_eq, vls_eq, vlParts_eq, vlo_eq] at h
  unfold pOp
  split at h <;> rename_i ho
  · simp only [ho]
    split at h <;> cases h
    exact ⟨_, by assumption, hk⟩
  · simp only [ho]
    split at h <;> cases h
    exact ⟨_, by assumption, hk⟩
  · simp only [ho]
    split at h
    · rename_i t hc
      refine ⟨t, hc, ?_⟩
      split at h
      · rename_i hx hy
        cases h
        simp only [hx, hy]
        exact hk
      · rename_i x y hne hx hy
        split
        · rename_i p q e1 e2
          exact (hne p q (Option.some.inj (hx.symm.trans e1)) (Option.some.inj (hy.symm.trans e2))).elim
        · split at h <;> cases h
          · exact ⟨fun _ => ⟨_, hx, hk⟩, fun e => by cases e⟩
          · exact ⟨(fun e => by cases e), fun _ => ⟨_, hy, hk⟩⟩
      · cases h
    · cases h
  · simp only [ho]
    split at h <;> cases h
    exact ⟨_, by assumption, hk⟩
  · simp only [ho]
    (repeat' split at h) <;> cases h
    exact ⟨_, by assumption, by assumption, hk⟩
  · simp only [ho]
    (repeat' split at h) <;> cases h
    exact ⟨_, _, _, by assumption, by assumption, by assumption, by assumption, hk⟩
  · simp only [ho]
    (repeat' split at h) <;> cases h
    · rename_i hc _ hw
      exact ⟨_, _, _, _, _, by assumption, by assumption, by assumption, by assumption, by assumption, hc.1, hc.2.1, hc.2.2.1, hc.2.2.2, by rw [if_pos hw]; exact hk⟩
    · rename_i hc _ hw
      exact ⟨_, _, _, _, _, by assumption, by assumption, by assumption, by assumption, by assumption, hc.1, hc.2.1, hc.2.2.1, hc.2.2.2, by rw [if_neg (by rw [hw]; simp)]; exact hk⟩
  · simp only [ho]
    (repeat' split at h) <;> cases h
    exact ⟨_, _, _, by assumption, by assumption, by assumption, hk⟩
  · simp only [ho]
    (repeat' split at h) <;> cases h
    exact ⟨_, _, _, _, by assumption, by assumption, by assumption, by assumption, hk⟩
  · simp only [ho]
    (repeat' split at h) <;> cases h
    exact ⟨_, by assumption, by assumption, hk⟩
  · simp only [ho]
    split at h
    · (repeat' split at h) <;> cases h
      · exact .inr (.inl ⟨_, _, _, _, by assumption, by assumption, by assumption, by assumption, by assumption, .inl ⟨rfl, hk⟩⟩)
      · exact .inr (.inl ⟨_, _, _, _, by assumption, by assumption, by assumption, by assumption, by assumption, .inr ⟨rfl, hk⟩⟩)
    · split at h
      · split at h
        · cases h
          exact .inl ⟨_, _, by assumption, by assumption, fBin_ok (by assumption) hk⟩
        · split at h
          · split at h
            · cases h
              exact .inr (.inr ⟨_, _, _, _, by assumption, by assumption, by assumption, by assumption, hk⟩)
            · cases h
          · cases h
      · cases h
    · cases h
  · simp only [ho]
    split at h <;> rename_i hx <;> first | (cases h; simp only [hx]; exact hk) | cases h
  · simp only [ho]
    (repeat' split at h) <;> cases h
    · rename_i hkk
      exact ⟨_, _, _, by assumption, by assumption, by assumption, by simp only [pConv, hkk]; exact hk⟩
    · rename_i hkk
      exact ⟨_, _, _, by assumption, by assumption, by assumption, by simp only [pConv, hkk]; exact hk⟩
  · simp only [ho]
    (repeat' split at h) <;> cases h
    exact ⟨_, _, by assumption, by assumption, hk⟩
  · simp only [ho]
    split at h
    · rename_i y hy
      split at h
      · rename_i a ha
        split at h
        · rename_i hm
          (repeat' split at h) <;> cases h
          refine ⟨y, a, _, _, hy, ?_, ha, by assumption, by assumption, fCut_ok (by assumption) hk⟩
          cases hyk : y.k <;> cases a <;> simp only [hyk] at hm ⊢ <;> first | trivial | (cases hm; done) | skip
          split at hm
          · rename_i ye e2
            exact ⟨_, ye, rfl, e2, by simpa using hm⟩
          · cases hm
        · cases h
      · cases h
    · cases h
  · simp only [ho]
    (repeat' split at h) <;> cases h
    exact ⟨_, _, by assumption, by assumption, by assumption, fField_ok (by assumption) hk⟩
  · simp only [ho]
    (repeat' split at h) <;> cases h
    exact ⟨_, _, _, by assumption, by assumption, by assumption, by assumption, hk⟩
  · simp only [ho]
    split at h
    · split at h
      · split at h
        · split at h
          · split at h
            · rename_i hsz
              have hsz' := beq_iff_eq.1 hsz
              subst hsz'
              (repeat' split at h) <;> cases h
              exact ⟨_, _, _, _, _, _, _, _, by assumption, by assumption, by assumption, by assumption, by assumption, by assumption, by assumption, hk⟩
            · cases h
          · cases h
        · cases h
      · cases h
    · cases h
  · simp only [ho]
    (repeat' split at h) <;> cases h
    exact ⟨_, _, _, _, _, by assumption, by assumption, by assumption, by assumption, by assumption, by assumption, hk⟩
  · simp only [ho]
    (repeat' split at h) <;> cases h
    exact ⟨_, _, by assumption, by assumption, hk⟩
  · simp only [ho]
    split at h
    · rename_i hcl
      simp only [hcl]
      split at h
      · rename_i T x h1 h2
        (repeat' split at h) <;> cases h
        · rename_i hkk
          exact ⟨T, x, _, _, by rw [← Array.toArray_toList (xs := (_ : Call).argTypes), h1], by rw [← Array.toArray_toList (xs := (_ : Call).args), h2], by assumption, by assumption, by simp only [hkk]; exact hk⟩
        · rename_i hkk
          exact ⟨T, x, _, _, by rw [← Array.toArray_toList (xs := (_ : Call).argTypes), h1], by rw [← Array.toArray_toList (xs := (_ : Call).args), h2], by assumption, by assumption, by simp only [hkk]; exact hk⟩
      · cases h
    · rename_i hca
      simp only [hca]
      split at h
      · rename_i T T' s x h1 h2
        (repeat' split at h) <;> cases h
        rename_i hc
        obtain ⟨rfl, rfl, rfl, h3, h4, h5, h6⟩ := hc
        exact ⟨T', s, x, _, _, _, _, _, _, _, by rw [← Array.toArray_toList (xs := (_ : Call).argTypes), h1], by rw [← Array.toArray_toList (xs := (_ : Call).args), h2], by assumption, by assumption, by assumption, h3, by assumption, by assumption, h4, h5, h6, hk⟩
      · cases h
    · rename_i hcm
      simp only [hcm]
      split at h
      · rename_i x y h2
        split at h
        · split at h
          · split at h
            · rename_i hkk
              subst hkk
              cases h
              exact ⟨x, y, _, _, _, by rw [← Array.toArray_toList (xs := (_ : Call).args), h2], by assumption, by assumption, hk⟩
            · cases h
          · cases h
        · cases h
      · cases h
    · cases h
  · cases h

/-- Where a run stands: at the end, or at a call. -/
inductive Res where
  | fin (env : Env) (st : St)
  | call (f : FuncId) (args : List PV) (d : Option Tmp) (n : Nat) (env : Env) (st : St)
def callOf (env : Env) (o : Op) : Option (Option (FuncId × List PV)) :=
  match o with
  | .call c => match c.callee with
    | .value f => match vl env f with
      | some (.clo (.func fn) fs cs) => match vls env c.args.toList with
        | some ags => some (some (fn, fs ++ ags ++ cs))
        | none => some none
      | _ => some none
    | _ => none
  | _ => none
def runF (tt : TTab) (ow : List Nat) (nt : Nat) (gd : Nat → Option Tmp) : Nat → List Oper → Env → St → Option Res
  | _, [], env, st => some (.fin env st)
  | n, o :: r, env, st => match (match o.guard with
      | none => some true
      | some (j, want) => match gd j with
        | some d => match eg env d with
          | some x => gval want x
          | none => none
        | none => none) with
    | some true => match callOf env o.op with
      | some (some (f, args)) => some (.call f args o.dst (n + 1) env st)
      | some none => none
      | none => match stepF tt ow nt o env st with
        | some (env', st') => runF tt ow nt gd (n + 1) r env' st'
        | none => none
    | some false => runF tt ow nt gd (n + 1) r (put nt o.dst env (.val undef)) st
    | none => none
def Holds (P : Program) (nt : Nat) (ops : Array Oper) (K : Env → St → Prop) : Option Res → Prop
  | some (.fin env st) => K env st
  | some (.call f args d n env st) => PC P f args st fun r st' => PO P nt ops n (put nt d env r) st' K
  | none => False
theorem run_ok {P : Program} {tt : TTab} {ow : List Nat} {nt : Nat} {ops : Array Oper} {K : Env → St → Prop} : ∀ (r : List Oper) (n : Nat) (env : Env) (st : St), Holds P nt ops K (runF tt ow nt (gdOf ops) n r env st) → pOps P tt ow nt ops n r env st K
  | [], n, env, st, h => h
  | o :: r, n, env, st, h => by
    simp only [runF] at h
    have hgo : ∀ (hh : Holds P nt ops K (match callOf env o.op with
      | some (some (f, args)) => some (.call f args o.dst (n + 1) env st)
      | some none => none
      | none => match stepF tt ow nt o env st with
        | some (env', st') => runF tt ow nt (gdOf ops) (n + 1) r env' st'
        | none => none)), (if isCall o.op then pOp P tt ow nt o env st fun env st => PO P nt ops (n + 1) env st K else pOp P tt ow nt o env st fun env st => pOps P tt ow nt ops (n + 1) r env st K) := by
      intro hh
      cases hc : callOf env o.op with
      | none =>
        rw [hc] at hh
        have hnc : isCall o.op = false ∨ isCall o.op = true := by cases isCall o.op <;> simp
        rcases hnc with hnc | hnc
        · rw [if_neg (by rw [hnc]; simp)]
          simp only at hh
          split at hh
          · rename_i env' st' hs
            exact stepF_ok hs (run_ok r (n + 1) env' st' hh)
          · exact hh.elim
        · exfalso
          unfold isCall at hnc
          unfold callOf at hc
          split at hnc
          · rename_i c ho
            rw [ho] at hc
            simp only at hc
            split at hnc
            · rename_i f hf
              rw [hf] at hc
              simp only at hc
              split at hc
              · split at hc <;> cases hc
              · cases hc
            · cases hnc
          · cases hnc
      | some x =>
        rw [hc] at hh
        cases x with
        | none => exact hh.elim
        | some x =>
          obtain ⟨f, args⟩ := x
          simp only [Holds] at hh
          unfold callOf at hc
          split at hc
          · rename_i c ho
            split at hc
            · rename_i g hg
              split at hc
              · rename_i fn fs cs hf
                split at hc
                · rename_i ags has
                  cases hc
                  rw [if_pos (by simp [isCall, ho, hg])]
                  simp only [pOp, ho, hg]
                  exact ⟨f, fs, cs, ags, by rw [← vl_eq]; exact hf, by rw [← vls_eq]; exact has, hh⟩
                · cases hc
              · cases hc
            · cases hc
          · cases hc
    simp only [pOps]
    split
    · rename_i hg
      simp only [hg] at h
      exact hgo h
    · rename_i j want hg
      simp only [hg] at h
      split at h
      · rename_i hm
        split at hm
        · rename_i d hd
          split at hm
          · rename_i x hx
            exact ⟨d, x, true, hd, by rw [← eg_eq]; exact hx, hm, (fun _ => hgo h), (fun e => by cases e)⟩
          · cases hm
        · cases hm
      · rename_i hm
        split at hm
        · rename_i d hd
          split at hm
          · rename_i x hx
            exact ⟨d, x, false, hd, by rw [← eg_eq]; exact hx, hm, (fun e => by cases e), (fun _ => run_ok r (n + 1) _ st h)⟩
          · cases hm
        · cases hm
      · exact h.elim
section
variable {P : Program} {tt : TTab} {nt : Nat}
/-- A region from place n on. -/
theorem PO.go (ht : TT P tt) (ow : List Nat) {ops : Array Oper} {n : Nat} {env : Env} {st : St} {K : Env → St → Prop} (h : Holds P nt ops K (runF tt ow nt (gdOf ops) n (ops.toList.drop n) env st)) : PO P nt ops n env st K :=
  PO.run ht ow (run_ok _ n env st h)
/-- A region, and what stands behind it under a name. -/
theorem PW.go (ht : TT P tt) (ow : List Nat) {id : Nat} {ops : Array Oper} {y : Code} {Q : Exit → Env → St → Prop} {env : Env} {st : St}
    (h : ∀ K : Env → St → Prop, (∀ env st, PW P nt y Q env st → K env st) → Holds P nt ops K (runF tt ow nt (gdOf ops) 0 ops.toList env st)) : PW P nt (.seq (.region id ops false) y) Q env st :=
  PW.seq_k fun K hK => PW.region ht ow (run_ok _ 0 env st (h K hK))
/-- A region, the last of its code. -/
theorem PW.goL (ht : TT P tt) (ow : List Nat) {id : Nat} {ops : Array Oper} {Q : Exit → Env → St → Prop} {env : Env} {st : St}
    (h : ∀ K : Env → St → Prop, (∀ env st, Q .normal env st → K env st) → Holds P nt ops K (runF tt ow nt (gdOf ops) 0 ops.toList env st)) : PW P nt (.region id ops false) Q env st :=
  PW.region ht ow (run_ok _ 0 env st (h _ fun _ _ h => h))
end
end Go.Proofs.YtolhbjfaahcekaaDoor
end
section
/- What an operation looks at, and which look at the temporaries alone. -/
set_option linter.unusedVariables false
set_option linter.unusedSimpArgs false
namespace Go.Proofs.YtolhbjfaahcekaaDoor

theorem vls_congr {E F : Env} : ∀ {os : List Operand}, (∀ x ∈ os, vl F x = vl E x) → vls F os = vls E os
  | [], _ => rfl
  | o :: os, h => by simp only [vls, h o (by simp), vls_congr (os := os) fun x hx => h x (by simp [hx])]
theorem vlParts_congr {E F : Env} : ∀ {os : List (Nat × Operand)}, (∀ x ∈ os.map (·.2), vl F x = vl E x) → vlParts F os = vlParts E os
  | [], _ => rfl
  | (i, o) :: os, h => by simp only [vlParts, h o (by simp), vlParts_congr (os := os) fun x hx => h x (by simp only [List.map_cons, List.mem_cons]; exact .inr hx)]
theorem vlo_congr {E F : Env} {o : Option Operand} (h : ∀ x ∈ o.toArray, vl F x = vl E x) : vlo F o = vlo E o := by
  cases o with
  | none => rfl
  | some o => simp only [vlo, h o (by simp)]

theorem stepF_congr {tt : TTab} {ow : List Nat} {nt : Nat} {o : Oper} {E F E' : Env} {st st' : St} (hv : ∀ x ∈ o.op.operands, vl F x = vl E x) (h : stepF tt ow nt o E st = some (E', st')) :
    ∃ x, E' = put nt o.dst E x ∧ stepF tt ow nt o F st = some (put nt o.dst F x, st') := by
  obtain ⟨dst, op, type, pos, after, guard⟩ := o
  unfold stepF at h ⊢
  cases op <;> simp only at h ⊢ <;> first | cases h; done | skip
  case alloc => (repeat' split at h) <;> cases h; exact ⟨_, rfl, by simp only [*]⟩
  case makeFunc fn fs cs =>
    simp only [Op.operands] at hv
    rw [vls_congr (E := E) (F := F) (os := fs.toList) fun x hx => hv x (by simp at hx ⊢; exact .inl hx), vls_congr (E := E) (F := F) (os := cs.toList) fun x hx => hv x (by simp at hx ⊢; exact .inr hx)]
    (repeat' split at h) <;> cases h; exact ⟨_, rfl, by simp only [*]⟩
  case build T ps =>
    simp only [Op.operands] at hv
    rw [vlParts_congr (E := E) (F := F) (os := ps.toList) fun x hx => hv x (by simpa using hx)]
    (repeat' split at h) <;> cases h; exact ⟨_, rfl, by simp only [*]⟩
  case buildSlice T n ps =>
    simp only [Op.operands] at hv
    rw [vlParts_congr (E := E) (F := F) (os := ps.toList) fun x hx => hv x (by simpa using hx)]
    (repeat' split at h) <;> cases h <;> exact ⟨_, rfl, by simp +contextual only [*, implies_true, and_self, if_true]⟩
  case slice T x lo hi mx =>
    cases mx with
    | some m => cases h
    | none =>
      simp only [Op.operands] at hv
      simp only at h ⊢
      rw [vlo_congr (E := E) (F := F) (o := lo) fun x hx => hv x (by simp at hx ⊢; simp [hx]), vlo_congr (E := E) (F := F) (o := hi) fun x hx => hv x (by simp at hx ⊢; simp [hx]), hv x (by simp)]
      (repeat' split at h) <;> cases h; exact ⟨_, rfl, by simp only [*]⟩
  case call c =>
    have hargs : ∀ x ∈ c.args.toList, vl F x = vl E x := fun x hx => hv x (by simp only [Op.operands, Call.operands]; simp at hx ⊢; exact .inr hx)
    split at h
    · split at h
      · rename_i T x h1 h2
        rw [h2] at hargs
        simp only [h1, h2, hargs x (by simp)]
        (repeat' split at h) <;> cases h <;> exact ⟨_, rfl, by simp only [*]⟩
      · cases h
    · split at h
      · rename_i T T' s x h1 h2
        rw [h2] at hargs
        simp only [h1, h2, hargs s (by simp), hargs x (by simp)]
        (repeat' split at h) <;> cases h
        exact ⟨_, rfl, by simp only [*]; simp⟩
      · cases h
    · split at h
      · rename_i x y h2
        rw [h2] at hargs
        simp only [h2, hargs x (by simp), hargs y (by simp)]
        split at h
        · split at h
          · split at h
            · rename_i h5
              cases h
              exact ⟨_, rfl, by simp only [*, if_true]⟩
            · cases h
          · cases h
        · cases h
      · cases h
    · cases h
  case pick c a b =>
    simp only [Op.operands] at hv
    rw [hv c (by simp), hv a (by simp), hv b (by simp)]
    (repeat' split at h) <;> cases h <;> first | exact ⟨_, rfl, by simp only [*]⟩ | exact ⟨_, rfl, rfl⟩
  case binOp op T x y _ =>
    simp only [Op.operands] at hv
    rw [hv x (by simp), hv y (by simp)]
    (repeat' split at h) <;> cases h <;> first | exact ⟨_, rfl, rfl⟩ | exact ⟨_, rfl, by simp only [*]⟩
  case store T x y =>
    simp only [Op.operands] at hv
    rw [hv x (by simp), hv y (by simp)]
    (repeat' split at h) <;> cases h; exact ⟨_, rfl, by simp only [*]⟩
  case indexAddr T x y =>
    simp only [Op.operands] at hv
    rw [hv x (by simp), hv y (by simp)]
    (repeat' split at h) <;> cases h; exact ⟨_, rfl, by simp only [*, if_true]⟩
  case index T x y =>
    simp only [Op.operands] at hv
    rw [hv x (by simp), hv y (by simp)]
    (repeat' split at h) <;> cases h; exact ⟨_, rfl, by simp only [*, if_true]⟩
  case unOp op T x =>
    simp only [Op.operands] at hv
    rw [hv x (by simp)]
    split at h <;> first | (cases h; exact ⟨_, rfl, by simp only [*]⟩) | cases h
  all_goals
    simp only [Op.operands] at hv
    rw [hv _ (Array.mem_singleton.2 rfl)]
    (repeat' split at h) <;> cases h <;> exact ⟨_, rfl, by simp only [*, if_true]⟩

/-- Looks at the temporaries alone. -/
def pureO (ow : List Nat) (o : Oper) : Bool := match o.op with
  | .load .. | .store .. | .alloc _ | .box .. => false
  | .buildSlice .. => !(owns ow o.dst)
  | .call c => match c.callee with
    | .builtin .len => true
    | _ => false
  | _ => true
def isLoad (o : Oper) : Bool := match o.op with
  | .load .. => true
  | _ => false
theorem stepF_pure {tt : TTab} {ow : List Nat} {nt : Nat} {o : Oper} {E E' : Env} {st st' : St} (hp : pureO ow o = true) (h : stepF tt ow nt o E st = some (E', st')) (s : St) : st' = st ∧ stepF tt ow nt o E s = some (E', s) := by
  obtain ⟨dst, op, type, pos, after, guard⟩ := o
  unfold stepF at h ⊢
  unfold pureO at hp
  cases op <;> simp only at h hp ⊢ <;> first | cases h; done | cases hp; done | skip
  case slice T x lo hi mx =>
    cases mx with
    | some m => cases h
    | none =>
      simp only at h ⊢
      (repeat' split at h) <;> cases h; exact ⟨rfl, by simp only [*]⟩
  case buildSlice T n ps =>
    have hw : owns ow dst = false := by simpa using hp
    simp only [hw] at h ⊢
    (repeat' split at h) <;> cases h <;> exact ⟨rfl, by simp +contextual only [*, implies_true, and_self, if_true]⟩
  case call c =>
    split at hp
    · rename_i hc
      simp only [hc] at h ⊢
      split at h
      · rename_i T x h1 h2
        try simp only [h1, h2]
        (repeat' split at h) <;> cases h <;> exact ⟨rfl, by simp only [*]⟩
      · cases h
    · cases hp
  case pick => (repeat' split at h) <;> cases h <;> first | exact ⟨rfl, by simp only [*]⟩ | exact ⟨rfl, rfl⟩
  case unOp => split at h <;> first | (cases h; exact ⟨rfl, by simp only [*]⟩) | cases h
  all_goals (repeat' split at h) <;> cases h <;> exact ⟨rfl, by simp only [*, if_true]⟩
theorem stepF_load {tt : TTab} {ow : List Nat} {nt : Nat} {o : Oper} {E E' : Env} {st st' : St} (hp : isLoad o = true) (h : stepF tt ow nt o E st = some (E', st')) : st' = st := by
  obtain ⟨dst, op, type, pos, after, guard⟩ := o
  unfold stepF at h
  cases op <;> first | cases hp; done | skip
  simp only at h
  (repeat' split at h) <;> cases h; rfl
theorem callOf_congr {o : Oper} {E F : Env} (hv : ∀ x ∈ o.op.operands, vl F x = vl E x) : callOf F o.op = callOf E o.op := by
  unfold callOf
  split
  · rename_i c ho
    rw [ho] at hv
    simp only [Op.operands, Call.operands] at hv
    split
    · rename_i f hf
      rw [hf] at hv
      rw [hv f (by simp), vls_congr (E := E) (F := F) (os := c.args.toList) fun x hx => hv x (by simp at hx ⊢; exact .inr hx)]
    · rfl
  · rfl

/-- Is it wanted? -/
def wantF (ops : Array Oper) (o : Oper) (E : Env) : Option Bool := match o.guard with
  | none => some true
  | some (j, want) => match gdOf ops j with
    | some d => match eg E d with
      | some x => gval want x
      | none => none
    | none => none
/-- An operation that is no call, with its guard. -/
def stepW (tt : TTab) (ow : List Nat) (nt : Nat) (ops : Array Oper) (o : Oper) (E : Env) (st : St) : Option (Env × St) := match wantF ops o E with
  | some true => match callOf E o.op with
    | none => stepF tt ow nt o E st
    | some _ => none
  | some false => some (put nt o.dst E (.val undef), st)
  | none => none
theorem gdOf_eq (ops : Array Oper) (j : Nat) : gdOf ops j = (ops[j]?).bind (·.dst) := by unfold gdOf; rw [Array.getElem?_toList]
theorem looks_vl {ops : Array Oper} {o : Oper} {E F : Env} (h : ∀ t ∈ o.looksAt ops, eg F t = eg E t) : ∀ x ∈ o.op.operands, vl F x = vl E x := by
  intro x hx
  cases x with
  | tmp t => exact h t (List.mem_append_left _ (List.mem_filterMap.2 ⟨.tmp t, by simpa using hx, rfl⟩))
  | const v => rfl
  | func f => rfl
  | global g => rfl
theorem wantF_congr {ops : Array Oper} {o : Oper} {E F : Env} (h : ∀ t ∈ o.looksAt ops, eg F t = eg E t) : wantF ops o F = wantF ops o E := by
  unfold wantF
  cases hg : o.guard with
  | none => rfl
  | some gw =>
    obtain ⟨j, want⟩ := gw
    simp only
    cases hd : gdOf ops j with
    | none => rfl
    | some d =>
      simp only
      rw [h d]
      rw [gdOf_eq] at hd
      exact List.mem_append_right _ (by simp only [hg, hd]; simp)
theorem stepW_congr {tt : TTab} {ow : List Nat} {nt : Nat} {ops : Array Oper} {o : Oper} {E F E' : Env} {st st' : St} (hv : ∀ t ∈ o.looksAt ops, eg F t = eg E t) (h : stepW tt ow nt ops o E st = some (E', st')) :
    ∃ x, E' = put nt o.dst E x ∧ stepW tt ow nt ops o F st = some (put nt o.dst F x, st') := by
  unfold stepW at h ⊢
  rw [wantF_congr hv, callOf_congr (looks_vl hv)]
  split at h
  · split at h
    · rename_i hw _ hc
      obtain ⟨x, h1, h2⟩ := stepF_congr (looks_vl hv) h
      exact ⟨x, h1, by (try simp only [hw, hc]); exact h2⟩
    · cases h
  · rename_i hw
    cases h
    exact ⟨_, rfl, by simp only [hw]⟩
  · cases h
theorem stepW_pure {tt : TTab} {ow : List Nat} {nt : Nat} {ops : Array Oper} {o : Oper} {E E' : Env} {st st' : St} (hp : pureO ow o = true) (h : stepW tt ow nt ops o E st = some (E', st')) (s : St) : st' = st ∧ stepW tt ow nt ops o E s = some (E', s) := by
  unfold stepW at h ⊢
  split at h
  · split at h
    · rename_i hw _ hc
      try simp only [hw, hc]
      exact stepF_pure hp h s
    · cases h
  · rename_i hw
    cases h
    exact ⟨rfl, by simp only [hw]⟩
  · cases h
theorem stepW_load {tt : TTab} {ow : List Nat} {nt : Nat} {ops : Array Oper} {o : Oper} {E E' : Env} {st st' : St} (hp : isLoad o = true) (h : stepW tt ow nt ops o E st = some (E', st')) : st' = st := by
  unfold stepW at h
  split at h
  · split at h
    · exact stepF_load hp h
    · cases h
  · cases h; rfl
  · cases h
theorem eg_put (nt : Nat) (d : Option Tmp) (E : Env) (x : PV) (t : Nat) : eg (put nt d E x) t = if d = some t ∧ t < nt then some x else eg E t := by
  cases d with
  | none => simp [put]
  | some d =>
    simp only [put]
    by_cases h : d < nt
    · rw [if_pos h]
      simp only [eg]
      by_cases ht : t = d
      · subst ht; simp [h]
      · have h1 : (t == d) = false := by simpa using ht
        rw [h1, if_neg (by rintro ⟨h2, _⟩; injection h2 with h2; exact ht h2.symm)]
        rfl
    · rw [if_neg h, if_neg]
      rintro ⟨h2, h3⟩
      injection h2 with h2
      subst h2
      exact h h3
end Go.Proofs.YtolhbjfaahcekaaDoor
end
section
/- A region in any order: what may be read early, is; the rest stands in a row. -/
set_option linter.unusedVariables false
set_option linter.unusedSimpArgs false
namespace Go.Proofs.YtolhbjfaahcekaaDoor

def predsOf (o : Oper) : List Nat := (o.after.toList.filter (Region.binds .any)).map (·.on)
def isEff (ow : List Nat) (o : Oper) : Bool := !(pureO ow o || isLoad o)
def ordOK (ow : List Nat) (ops : Array Oper) : List Nat → List (Nat × List Nat) → Bool
  | _, [] => true
  | done, (i, chk) :: r => match ops[i]? with
    | none => false
    | some o => !done.contains i && (predsOf o).all done.contains && (!isEff ow o ||
        (r.all (fun j => match ops[j.1]? with
          | some oj => (predsOf oj).any fun p => p == i || (r.map (·.1)).contains p
          | none => false) &&
        done.all fun k => (predsOf o).contains k || chk.contains k || match ops[k]? with
          | some ok => pureO ow ok
          | none => false)) && ordOK ow ops (i :: done) r
def drawOK (nt : Nat) (ow : List Nat) (ops : Array Oper) (ord : List (Nat × List Nat)) : Bool :=
  (List.range ops.size).all (fun i => (ord.map (·.1)).contains i) &&
  (List.range ops.size).all (fun k => match ops[k]? with
    | some o => ((match o.dst with
      | some d => decide (d < nt)
      | none => true) && (predsOf o).all (fun p => decide (p < k))) && (List.range ops.size).all fun i => match ops[i]? with
      | some o' => match o'.dst with
        | some d => (!(o.looksAt ops).contains d || (predsOf o).contains i) && (i == k || o.dst != some d)
        | none => true
      | none => true
    | none => true) && ordOK ow ops [] ord

structure Sta (nt : Nat) (ow : List Nat) (ops : Array Oper) (done : List Nat) (r : List (Nat × List Nat)) : Prop where
  all : ∀ i, i < ops.size → i ∈ done ∨ i ∈ r.map (·.1)
  dst : ∀ (k : Nat) (o : Oper) (d : Tmp), ops[k]? = some o → o.dst = some d → d < nt
  less : ∀ k o, ops[k]? = some o → ∀ p ∈ predsOf o, p < k
  ssa : ∀ k o i o' d, ops[k]? = some o → ops[i]? = some o' → o'.dst = some d → (d ∈ o.looksAt ops → i ∈ predsOf o) ∧ (i ≠ k → o.dst ≠ some d)
  pre : ∀ (k : Nat), k ∈ done → ∀ ok : Oper, ops[k]? = some ok → ∀ p ∈ predsOf ok, p ∈ done
  ord : ordOK ow ops done r = true
theorem lt_size {ops : Array Oper} {k : Nat} {o : Oper} (h : ops[k]? = some o) : k < ops.size := (Array.getElem?_eq_some_iff.1 h).1
theorem Sta.of {nt : Nat} {ow : List Nat} {ops : Array Oper} {ord : List (Nat × List Nat)} (h : drawOK nt ow ops ord = true) : Sta nt ow ops [] ord := by
  unfold drawOK at h
  rw [Bool.and_eq_true, Bool.and_eq_true, List.all_eq_true, List.all_eq_true] at h
  obtain ⟨⟨h1, h2⟩, h3⟩ := h
  refine ⟨fun i hi => .inr ?_, fun k o d hk hd => ?_, fun k o hk p hp => ?_, fun k o i o' d hk hi hd => ?_, by simp, h3⟩
  · simpa using h1 i (List.mem_range.2 hi)
  · have := h2 k (List.mem_range.2 (lt_size hk))
    simp only [hk, hd, Bool.and_eq_true, List.all_eq_true] at this
    simpa using this.1.1
  · have := h2 k (List.mem_range.2 (lt_size hk))
    simp only [hk, Bool.and_eq_true, List.all_eq_true] at this
    simpa using this.1.2 p hp
  · have := h2 k (List.mem_range.2 (lt_size hk))
    simp only [hk, Bool.and_eq_true, List.all_eq_true] at this
    have := this.2 i (List.mem_range.2 (lt_size hi))
    simp only [hi, hd, Bool.and_eq_true, Bool.or_eq_true, Bool.not_eq_true', List.contains_eq_mem, decide_eq_true_eq, decide_eq_false_iff_not, beq_iff_eq, bne_iff_ne] at this
    exact ⟨fun hm => this.1.resolve_left fun hn => hn hm, fun hne => this.2.resolve_left hne⟩
theorem ordOK_not {ow : List Nat} {ops : Array Oper} : ∀ {r : List (Nat × List Nat)} {done : List Nat}, ordOK ow ops done r = true → ∀ j ∈ r.map (·.1), j ∉ done
  | [], done, _, j, hj => by simp at hj
  | (i, chk) :: r, done, h, j, hj => by
    unfold ordOK at h
    split at h
    · cases h
    · rename_i o ho
      simp only [Bool.and_eq_true] at h
      simp only [List.map_cons, List.mem_cons] at hj
      rcases hj with rfl | hj
      · simpa using h.1.1.1
      · have := ordOK_not h.2 j hj
        simp at this
        exact this.2
theorem Sta.next {nt : Nat} {ow : List Nat} {ops : Array Oper} {done : List Nat} {i : Nat} {chk : List Nat} {r : List (Nat × List Nat)} (h : Sta nt ow ops done ((i, chk) :: r)) :
    Sta nt ow ops (i :: done) r ∧ ∃ o, ops[i]? = some o ∧ i ∉ done ∧ (∀ p ∈ predsOf o, p ∈ done) ∧ (isEff ow o = true → (∀ j ∈ r.map (·.1), ∀ oj, ops[j]? = some oj → ∃ p ∈ predsOf oj, p = i ∨ p ∈ r.map (·.1)) ∧
      ∀ k ∈ done, k ∈ predsOf o ∨ k ∈ chk ∨ ∀ ok, ops[k]? = some ok → pureO ow ok = true) := by
  have ho := h.ord
  unfold ordOK at ho
  split at ho
  · cases ho
  · rename_i o hi
    simp only [Bool.and_eq_true] at ho
    obtain ⟨⟨⟨h1, h2⟩, h3⟩, h4⟩ := ho
    have h2' : ∀ p ∈ predsOf o, p ∈ done := by simpa using h2
    refine ⟨⟨fun j hj => ?_, h.dst, h.less, h.ssa, fun k hk ok hok p hp => ?_, h4⟩, o, hi, by simpa using h1, h2', fun he => ?_⟩
    · rcases h.all j hj with hd | hd
      · exact .inl (by simp [hd])
      · simp only [List.map_cons, List.mem_cons] at hd
        rcases hd with rfl | hd
        · exact .inl (by simp)
        · exact .inr hd
    · simp only [List.mem_cons] at hk ⊢
      rcases hk with rfl | hk
      · rw [hi] at hok
        cases hok
        exact .inr (h2' p hp)
      · exact .inr (h.pre k hk ok hok p hp)
    · rw [he] at h3
      simp only [Bool.not_true, Bool.false_or, Bool.and_eq_true, List.all_eq_true] at h3
      refine ⟨fun j hj oj hoj => ?_, fun k hk => ?_⟩
      · obtain ⟨p, hp, rfl⟩ := List.mem_map.1 hj
        have := h3.1 p hp
        simp only [hoj, List.any_eq_true, Bool.or_eq_true, beq_iff_eq, List.contains_eq_mem, decide_eq_true_eq] at this
        exact this
      · have := h3.2 k hk
        simp only [Bool.or_eq_true, List.contains_eq_mem, decide_eq_true_eq, or_assoc] at this
        rcases this with h | h | h
        · exact .inl h
        · exact .inr (.inl h)
        · refine .inr (.inr fun ok hok => ?_)
          rw [hok] at h
          exact h

/-- What has been read early and not yet by the machine. -/
def Pnd (tt : TTab) (ow : List Nat) (nt : Nat) (ops : Array Oper) (E : Env) (st : St) (k : Nat) : Prop :=
  ∃ o x, ops[k]? = some o ∧ stepW tt ow nt ops o E st = some (put nt o.dst E x, st) ∧ ∀ t, eg (put nt o.dst E x) t = eg E t
def hs (ops : Array Oper) (listed : Array Bool) (done : List Nat) : List Tmp := done.filterMap fun k => if listed.getD k true then none else (ops[k]?).bind (·.dst)
def hide (l : List Tmp) : Env → Env
  | [] => []
  | (j, x) :: r => if j ∈ l then hide l r else (j, x) :: hide l r
theorem eg_hide (l : List Tmp) (t : Tmp) : ∀ E : Env, eg (hide l E) t = if t ∈ l then none else eg E t
  | [] => by simp [hide, eg]
  | (j, x) :: r => by
    simp only [hide]
    by_cases hj : j ∈ l
    · rw [if_pos hj, eg_hide l t r]
      by_cases ht : t ∈ l
      · simp [ht]
      · have : (t == j) = false := by
          simp only [beq_eq_false_iff_ne]
          rintro rfl
          exact ht hj
        simp [ht, eg, this]
    · rw [if_neg hj]
      simp only [eg, eg_hide l t r]
      by_cases ht : t = j
      · subst ht; simp [hj]
      · have : (t == j) = false := by simpa using ht
        rw [this]
        rfl
theorem mem_hs {ops : Array Oper} {listed : Array Bool} {done : List Nat} {t : Tmp} : t ∈ hs ops listed done ↔ ∃ k ∈ done, listed.getD k true = false ∧ ∃ o, ops[k]? = some o ∧ o.dst = some t := by
  unfold hs
  rw [List.mem_filterMap]
  constructor
  · rintro ⟨k, hk, h⟩
    split at h
    · cases h
    · rename_i hl
      obtain ⟨o, h1, h2⟩ := Option.bind_eq_some_iff.1 h
      exact ⟨k, hk, by simpa using hl, o, h1, h2⟩
  · rintro ⟨k, hk, hl, o, h1, h2⟩
    exact ⟨k, hk, by rw [if_neg (by rw [hl]; simp), h1]; exact h2⟩
theorem ARep.of_get {G : Gh} {nt : Nat} {E F : Env} {a : Act} (r : ARep G nt F a) (h : ∀ t x, eg E t = some x → eg F t = some x) : ARep G nt E a :=
  ⟨r.defers, r.size, fun i x e => r.get i x (by rw [← eg_eq] at e ⊢; exact h i x e)⟩
theorem mem_ready' {ops : Array Oper} {listed : Array Bool} {j : Nat} : j ∈ Region.ready .any ops listed ↔ listed.getD j true = false ∧ ∃ o, ops[j]? = some o ∧ ∀ p ∈ predsOf o, listed.getD p false = true := by
  rw [mem_ready]
  constructor
  · rintro ⟨h1, o, h2, h3⟩
    refine ⟨h1, o, h2, fun p hp => ?_⟩
    simp only [predsOf, List.mem_map, List.mem_filter] at hp
    obtain ⟨e, ⟨he, hb⟩, rfl⟩ := hp
    exact h3 e (by simpa using he) hb
  · rintro ⟨h1, o, h2, h3⟩
    refine ⟨h1, o, h2, fun e he hb => h3 e.on ?_⟩
    simp only [predsOf, List.mem_map, List.mem_filter]
    exact ⟨e, ⟨by simpa using he, hb⟩, rfl⟩
theorem unlisted {listed : Array Bool} {i : Nat} : listed.getD i true = false ↔ listed[i]? = some false := by
  rw [Array.getD_eq_getD_getElem?]
  cases h : listed[i]? with
  | none => simp
  | some b => simp
theorem islisted {listed : Array Bool} {i : Nat} : listed.getD i false = true ↔ listed[i]? = some true := by
  rw [Array.getD_eq_getD_getElem?]
  cases h : listed[i]? with
  | none => simp
  | some b => simp
theorem count_set {listed : Array Bool} {i : Nat} (h : listed[i]? = some false) : (listed.setIfInBounds i true).toList.count false + 1 = listed.toList.count false := by
  obtain ⟨hlt, hi⟩ := Array.getElem?_eq_some_iff.1 h
  rw [Array.toList_setIfInBounds, List.count_set (by simpa using hlt)]
  have h1 : listed.toList[i]'(by simpa using hlt) = false := by simpa using hi
  rw [h1]
  have : 0 < listed.toList.count false := List.count_pos_iff.2 (by rw [← h1]; exact List.getElem_mem _)
  simp only [beq_self_eq_true, if_true, Bool.true_beq, Bool.false_eq_true, if_false]
  omega
theorem count_zero {listed : Array Bool} (h : ∀ i, i < listed.size → listed[i]? = some true) : listed.toList.count false = 0 := by
  rw [List.count_eq_zero]
  intro hm
  obtain ⟨i, hi, he⟩ := List.mem_iff_getElem.1 hm
  have := h i (by simpa using hi)
  rw [Array.getElem?_eq_getElem (by simpa using hi)] at this
  simp at he
  simp [he] at this
theorem all_listed {nt : Nat} {ow : List Nat} {ops : Array Oper} {done : List Nat} {r : List (Nat × List Nat)} (s : Sta nt ow ops done r) {listed : Array Bool} (hsz : listed.size = ops.size) (hr : Region.ready .any ops listed = []) : ∀ i, i < listed.size → listed[i]? = some true := by
  intro i
  induction i using Nat.strongRecOn with
  | _ i ih =>
    intro hi
    cases hl : listed[i]? with
    | none => rw [Array.getElem?_eq_none_iff] at hl; omega
    | some b =>
      cases b with
      | true => rfl
      | false =>
        exfalso
        have ho : ∃ o, ops[i]? = some o := ⟨ops[i]'(by omega), Array.getElem?_eq_getElem _⟩
        obtain ⟨o, ho⟩ := ho
        have : i ∈ Region.ready .any ops listed := mem_ready'.2 ⟨unlisted.2 hl, o, ho, fun p hp => islisted.2 (ih p (s.less i o ho p hp) (by have := s.less i o ho p hp; omega))⟩
        rw [hr] at this
        cases this

section
variable {P : Program} {tt : TTab} {nt : Nat} {ow : List Nat} {ops : Array Oper}
def DO (P : Program) (tt : TTab) (ow : List Nat) (nt : Nat) (ops : Array Oper) (done : List Nat) (r : List (Nat × List Nat)) (E : Env) (st : St) (K : Env → St → Prop) : Prop :=
  ∀ listed a w G Q, listed.size = ops.size → (∀ i, listed[i]? = some true → i ∈ done) → (∀ k ∈ done, listed[k]? = some false → Pnd tt ow nt ops E st k) →
    Inv G st w → ARep G nt (hide (hs ops listed done) E) a → Goes G nt K (Q .normal) → wpAny P .any ops Q (listed.toList.count false) listed a w
theorem want_ok {G : Gh} {F : Env} {a : Act} {o : Oper} {b : Bool} (ha : ARep G nt F a) (h : wantF ops o F = some b) : Region.wanted o (yielded ops a.tmps) = b := by
  unfold wantF at h
  unfold Region.wanted
  split at h
  · rename_i hg
    rw [hg]
    injection h
  · rename_i j want hg
    rw [hg]
    simp only
    split at h
    · rename_i d hd
      split at h
      · rename_i x hc
        rw [eg_eq] at hc
        obtain ⟨v, hv1, hv2⟩ := ha.get d _ hc
        rw [gdOf_eq] at hd
        have := gval_ok h hv2
        simp only [yielded, hd, Option.bind_some, hv1]
        rw [← this]
        cases v <;> rfl
      · cases h
    · cases h
theorem wpOp_of (ht : TT P tt) {G : Gh} {F : Env} {st : St} {a : Act} {w : World} {o : Oper} {i : Nat} {K : Env → St → Prop} {Q : Exit → Act → World → Prop} {next : Act → World → Prop}
    (hi : Inv G st w) (ha : ARep G nt F a) (ho : ops[i]? = some o) (hw : wantF ops o F = some true) (h : pOp P tt ow nt o F st K) (hn : Goes G nt K next) : wpOp P ops Q i next a w := by
  unfold wpOp
  simp only [ho, want_ok ha hw, if_true]
  exact .inl (pOp_ok ht h hi ha hn)
theorem callOf_not {E : Env} {o : Oper} (h : callOf E o.op = none) : isCall o.op = false := by
  unfold callOf at h
  unfold isCall
  split
  · rename_i c ho
    split
    · rename_i f hf
      simp only [ho, hf] at h
      (repeat' split at h) <;> cases h
    · rfl
  · rfl
theorem stepW_wp (ht : TT P tt) {G : Gh} {F F' : Env} {st st' : St} {a : Act} {w : World} {o : Oper} {i : Nat} {Q : Exit → Act → World → Prop} {next : Act → World → Prop}
    (hi : Inv G st w) (ha : ARep G nt F a) (ho : ops[i]? = some o) (h : stepW tt ow nt ops o F st = some (F', st')) (hn : Goes G nt (fun E s => E = F' ∧ s = st') next) : wpOp P ops Q i next a w := by
  unfold stepW at h
  split at h
  · rename_i hw
    split at h
    · exact wpOp_of ht hi ha ho hw (stepF_ok h ⟨rfl, rfl⟩) hn
    · cases h
  · rename_i hw
    cases h
    unfold wpOp
    simp only [ho, want_ok ha hw, Bool.false_eq_true, if_false]
    exact hn _ _ _ _ _ (.refl _) hi (ha.put (.val undef) o.dst) ⟨rfl, rfl⟩
  · cases h
theorem Pnd.put (s : ∀ k o i o' d, ops[k]? = some o → ops[i]? = some o' → o'.dst = some d → (d ∈ o.looksAt ops → i ∈ predsOf o) ∧ (i ≠ k → o.dst ≠ some d)) {E : Env} {st : St} {k i : Nat} {o : Oper} {x : PV} (h : Pnd tt ow nt ops E st k) (ho : ops[i]? = some o) (hne : i ≠ k) (hnp : ∀ ok, ops[k]? = some ok → i ∉ predsOf ok) :
    Pnd tt ow nt ops (put nt o.dst E x) st k := by
  obtain ⟨ok, y, h1, h2, h3⟩ := h
  have hl : ∀ t ∈ ok.looksAt ops, eg (Go.Proofs.YtolhbjfaahcekaaDoor.put nt o.dst E x) t = eg E t := by
    intro t ht
    rw [eg_put, if_neg]
    rintro ⟨h4, _⟩
    exact hnp ok h1 ((s k ok i o t h1 ho h4).1 ht)
  obtain ⟨z, e1, e2⟩ := stepW_congr hl h2
  refine ⟨ok, z, h1, e2, fun t => ?_⟩
  rw [e1] at h3
  have := h3 t
  rw [eg_put] at this ⊢
  split
  · rename_i hd
    rw [if_pos hd] at this
    rw [this, eg_put, if_neg]
    rintro ⟨h4, _⟩
    exact (s k ok i o t h1 ho h4).2 hne hd.1
  · rfl
theorem Pnd.pure {E : Env} {st st' : St} {k : Nat} (h : Pnd tt ow nt ops E st k) (hp : ∀ ok, ops[k]? = some ok → pureO ow ok = true) : Pnd tt ow nt ops E st' k := by
  obtain ⟨ok, y, h1, h2, h3⟩ := h
  exact ⟨ok, y, h1, (stepW_pure (hp ok h1) h2 st').2, h3⟩
/-- What an effect comes to. -/
def EffS (P : Program) (tt : TTab) (ow : List Nat) (nt : Nat) (ops : Array Oper) (done : List Nat) (e : Nat) (chk : List Nat) (r : List (Nat × List Nat)) (E : Env) (st : St) (K : Env → St → Prop) : Prop :=
  ∃ o, ops[e]? = some o ∧ isEff ow o = true ∧ ∀ F, (∀ t ∈ o.looksAt ops, eg F t = eg E t) → wantF ops o F = some true ∧
    pOp P tt ow nt o F st fun F' st' => ∃ x, F' = put nt o.dst F x ∧ (∀ k ∈ chk, Pnd tt ow nt ops (put nt o.dst E x) st' k) ∧ DO P tt ow nt ops (e :: done) r (put nt o.dst E x) st' K
theorem DO.core (ht : TT P tt) {done : List Nat} {r : List (Nat × List Nat)} {E : Env} {st : St} {K : Env → St → Prop} (s : Sta nt ow ops done r) (hend : r = [] → K E st)
    (heff : ∀ e chk r', r = (e, chk) :: r' → EffS P tt ow nt ops done e chk r' E st K) : DO P tt ow nt ops done r E st K := by
  intro listed a w G Q hsz hsub hpd hi ha hq
  generalize hn : listed.toList.count false = n
  have key : ∀ listed : Array Bool, listed.size = ops.size → (∀ i, listed[i]? = some true → i ∈ done) → (∀ i, i < listed.size → listed[i]? = some true) → r = [] := by
    intro listed hsz hsub hall
    cases hr : r with
    | nil => rfl
    | cons p r' =>
      obtain ⟨e, chk⟩ := p
      subst hr
      obtain ⟨o, ho, hnd, _⟩ := s.next.2
      exact absurd (hsub e (hall e (by have := lt_size ho; omega))) hnd
  induction n generalizing listed a w G with
  | zero =>
    have hall : ∀ i, i < listed.size → listed[i]? = some true := by
      intro i hlt
      cases hl : listed[i]? with
      | none => rw [Array.getElem?_eq_none_iff] at hl; omega
      | some b =>
        cases b with
        | true => rfl
        | false => have := count_set hl; omega
    refine ⟨?_, ?_⟩
    · cases hr : Region.ready .any ops listed with
      | nil => rfl
      | cons j js =>
        have hj : j ∈ Region.ready .any ops listed := by rw [hr]; simp
        obtain ⟨h1, _⟩ := mem_ready'.1 hj
        rw [unlisted] at h1
        rw [hall j (Array.getElem?_eq_some_iff.1 h1).1] at h1
        cases h1
    · refine hq G E st a w (.refl G) hi (ha.of_get fun t x e => ?_) (hend (key listed hsz hsub hall))
      rw [eg_hide, if_neg]
      · exact e
      · intro hm
        obtain ⟨k, _, hk, _⟩ := mem_hs.1 hm
        rw [unlisted] at hk
        rw [hall k (Array.getElem?_eq_some_iff.1 hk).1] at hk
        cases hk
  | succ n ih =>
    refine ⟨fun hr => ?_, fun i hready => ?_⟩
    · have := count_zero (all_listed s hsz hr)
      omega
    obtain ⟨hun, o, ho, hpr⟩ := mem_ready'.1 hready
    have hun' := unlisted.1 hun
    have hlook : ∀ t ∈ o.looksAt ops, eg (hide (hs ops listed done) E) t = eg E t := by
      intro t hto
      rw [eg_hide, if_neg]
      intro hm
      obtain ⟨k, hk, hku, ok, hok, hd⟩ := mem_hs.1 hm
      have := hpr k ((s.ssa i o k ok t ho hok hd).1 hto)
      rw [islisted] at this
      rw [unlisted] at hku
      rw [this] at hku
      cases hku
    have hcount : (listed.setIfInBounds i true).toList.count false = n := by have := count_set hun'; omega
    have hget : ∀ j, (listed.setIfInBounds i true)[j]? = if j = i then some true else listed[j]? := by
      intro j
      rw [Array.getElem?_setIfInBounds]
      by_cases h : i = j
      · subst h
        have := (Array.getElem?_eq_some_iff.1 hun').1
        simp [this]
      · rw [if_neg h, if_neg (Ne.symm h)]
    by_cases hid : i ∈ done
    · obtain ⟨o', x, ho', hst, hsame⟩ := hpd i hid hun'
      rw [ho] at ho'
      cases ho'
      obtain ⟨y, e1, e2⟩ := stepW_congr hlook hst
      rw [e1] at hsame
      refine stepW_wp ht hi ha ho e2 ?_
      rintro G' _ _ a' w' hle hi' ha' ⟨rfl, rfl⟩
      refine ih (listed.setIfInBounds i true) a' w' G' (by simpa using hsz) ?_ ?_ hi' ?_ ?_ hcount
      · intro j hj
        rw [hget] at hj
        split at hj
        · rename_i h; rw [h]; exact hid
        · exact hsub j hj
      · intro k hk hku
        rw [hget] at hku
        split at hku
        · cases hku
        · exact hpd k hk hku
      · refine ha'.of_get fun t z hz => ?_
        rw [eg_hide] at hz
        split at hz
        · cases hz
        · rename_i hnm
          rw [eg_put]
          split
          · rename_i hd
            have := hsame t
            rw [eg_put, if_pos hd] at this
            rw [this]
            exact hz
          · rename_i hd
            rw [eg_hide, if_neg]
            · exact hz
            · intro hm
              obtain ⟨k, hk, hku, ok, hok, hdk⟩ := mem_hs.1 hm
              by_cases hki : k = i
              · subst hki
                rw [ho] at hok
                cases hok
                exact hd ⟨hdk, s.dst k o t ho hdk⟩
              · exact hnm (mem_hs.2 ⟨k, hk, by rw [unlisted] at hku ⊢; rw [hget, if_neg hki]; exact hku, ok, hok, hdk⟩)
      · exact fun G2 env2 st2 a2 w2 m1 m2 m3 m4 => hq G2 env2 st2 a2 w2 (hle.trans m1) m2 m3 m4
    · rcases s.all i (lt_size ho) with h | h
      · exact absurd h hid
      cases hr : r with
      | nil => rw [hr] at h; simp at h
      | cons p r' =>
        obtain ⟨e, chk⟩ := p
        obtain ⟨oe, hoe, heffe, hstep⟩ := heff e chk r' hr
        subst hr
        obtain ⟨s', oe', hoe', hnd, hpe, hblk⟩ := s.next
        rw [hoe] at hoe'
        cases hoe'
        obtain ⟨hblk, hchk⟩ := hblk heffe
        have hie : i = e := by
          simp only [List.map_cons, List.mem_cons] at h
          rcases h with h | h
          · exact h
          · exfalso
            obtain ⟨p, hp, hpp⟩ := hblk i h o ho
            have hpd' := hsub p (islisted.1 (hpr p hp))
            rcases hpp with rfl | hpp
            · exact hnd hpd'
            · exact ordOK_not s'.ord p hpp (by simp [hpd'])
        subst hie
        rw [ho] at hoe
        cases hoe
        obtain ⟨hwant, hop⟩ := hstep _ hlook
        refine wpOp_of ht hi ha ho hwant hop ?_
        rintro G' _ st' a' w' hle hi' ha' ⟨x, rfl, hck, hdo⟩
        rw [← hcount]
        refine hdo (listed.setIfInBounds i true) a' w' G' Q (by simpa using hsz) ?_ ?_ hi' ?_ ?_
        · intro j hj
          rw [hget] at hj
          split at hj
          · rename_i h; rw [h]; simp
          · simp [hsub j hj]
        · intro k hk hku
          rw [hget] at hku
          split at hku
          · cases hku
          · rename_i hki
            simp only [List.mem_cons] at hk
            rcases hk with hk | hk
            · exact absurd hk hki
            · rcases hchk k hk with h1 | h1 | h1
              · have := hpr k h1
                rw [islisted] at this
                rw [this] at hku
                cases hku
              · exact hck k h1
              · refine ((hpd k hk hku).put s.ssa ho (Ne.symm hki) ?_).pure h1
                intro ok hok hm
                exact hnd (s.pre k hk ok hok i hm)
        · refine ha'.of_get fun t z hz => ?_
          rw [eg_hide] at hz
          split at hz
          · cases hz
          · rename_i hnm
            rw [eg_put] at hz ⊢
            split
            · rename_i hd
              rw [if_pos hd] at hz
              exact hz
            · rename_i hd
              rw [if_neg hd] at hz
              rw [eg_hide, if_neg]
              · exact hz
              · intro hm
                obtain ⟨k, hk, hku, ok, hok, hdk⟩ := mem_hs.1 hm
                have hki : k ≠ i := by rintro rfl; exact hnd hk
                exact hnm (mem_hs.2 ⟨k, by simp [hk], by rw [unlisted] at hku ⊢; rw [hget, if_neg hki]; exact hku, ok, hok, hdk⟩)
        · exact fun G2 env2 st2 a2 w2 m1 m2 m3 m4 => hq G2 env2 st2 a2 w2 (hle.trans m1) m2 m3 m4
theorem DO.read {done : List Nat} {i : Nat} {chk : List Nat} {r : List (Nat × List Nat)} {E : Env} {st : St} {K : Env → St → Prop} {o : Oper} {x : PV} (s : Sta nt ow ops done ((i, chk) :: r)) (ho : ops[i]? = some o)
    (hst : stepW tt ow nt ops o E st = some (put nt o.dst E x, st)) (h : DO P tt ow nt ops (i :: done) r (put nt o.dst E x) st K) : DO P tt ow nt ops done ((i, chk) :: r) E st K := by
  intro listed a w G Q hsz hsub hpd hi ha hq
  obtain ⟨s', o', ho', hnd, hpe, _⟩ := s.next
  rw [ho] at ho'
  cases ho'
  have hun : listed[i]? = some false := by
    cases hl : listed[i]? with
    | none => rw [Array.getElem?_eq_none_iff] at hl; have := lt_size ho; omega
    | some b =>
      cases b with
      | true => exact absurd (hsub i hl) hnd
      | false => rfl
  refine h listed a w G Q hsz (fun j hj => by simp [hsub j hj]) ?_ hi ?_ hq
  · intro k hk hku
    simp only [List.mem_cons] at hk
    by_cases hki : k = i
    · subst hki
      have hl : ∀ t ∈ o.looksAt ops, eg (put nt o.dst E x) t = eg E t := by
        intro t hto
        rw [eg_put, if_neg]
        rintro ⟨h4, _⟩
        have := s.less k o ho k ((s.ssa k o k o t ho ho h4).1 hto)
        omega
      obtain ⟨y, e1, e2⟩ := stepW_congr hl hst
      refine ⟨o, y, ho, e2, fun t => ?_⟩
      have e3 : eg (put nt o.dst E x) t = eg (put nt o.dst E y) t := congrArg (fun E => eg E t) e1
      rw [eg_put] at e3 ⊢
      by_cases hd : o.dst = some t ∧ t < nt
      · rw [if_pos hd] at e3 ⊢
        rw [eg_put, if_pos hd] at e3 ⊢
        exact e3.symm
      · rw [if_neg hd]
    · refine (hpd k (hk.resolve_left hki) hku).put s.ssa ho (Ne.symm hki) ?_
      intro ok hok hm
      exact hnd (s.pre k (hk.resolve_left hki) ok hok i hm)
  · refine ha.of_get fun t z hz => ?_
    rw [eg_hide] at hz ⊢
    split at hz
    · cases hz
    · rename_i hnm
      rw [if_neg]
      · rw [eg_put, if_neg] at hz
        · exact hz
        · rintro ⟨h4, _⟩
          exact hnm (mem_hs.2 ⟨i, by simp, unlisted.2 hun, o, ho, h4⟩)
      · intro hm
        obtain ⟨k, hk, hku⟩ := mem_hs.1 hm
        exact hnm (mem_hs.2 ⟨k, by simp [hk], hku⟩)
def chkF (tt : TTab) (nt : Nat) (ops : Array Oper) (E : Env) (st : St) : List Nat → Prop
  | [] => True
  | k :: ks => (match ops.toList[k]? with
    | some ⟨some d, .load T a, _, _, _, none⟩ => match vl E a with
      | some p => match tt T with
        | some y => match ldPV y st p with
          | some x => eg E d = some x
          | none => False
        | none => False
      | none => False
    | _ => False) ∧ chkF tt nt ops E st ks
theorem chkF_ok {E : Env} {st : St} (hnt : ∀ (k : Nat) (o : Oper) (d : Tmp), ops[k]? = some o → o.dst = some d → d < nt) : ∀ {l : List Nat}, chkF tt nt ops E st l → ∀ k ∈ l, Pnd tt ow nt ops E st k
  | [], _, k, hk => by simp at hk
  | j :: l, h, k, hk => by
    simp only [List.mem_cons] at hk
    unfold chkF at h
    rcases hk with rfl | hk
    · have h1 := h.1
      split at h1
      · rename_i d T a ty pos af ho
        rw [Array.getElem?_toList] at ho
        split at h1
        · rename_i p hp
          split at h1
          · rename_i y hy
            split at h1
            · rename_i x hx
              refine ⟨_, x, ho, ?_, fun t => ?_⟩
              · simp only [stepW, wantF, callOf, stepF, hp, hy, hx]
              · rw [eg_put]
                split
                · rename_i hd
                  obtain ⟨hd, _⟩ := hd
                  injection hd with hd
                  rw [← hd, h1]
                · rfl
            · exact h1.elim
          · exact h1.elim
        · exact h1.elim
      · exact h1.elim
    · exact chkF_ok hnt h.2 k hk
def GO (P : Program) (tt : TTab) (ow : List Nat) (nt : Nat) (ops : Array Oper) (done : List Nat) (r : List (Nat × List Nat)) (E : Env) (st : St) (K : Env → St → Prop) : Prop := Sta nt ow ops done r → DO P tt ow nt ops done r E st K
def drawH (P : Program) (tt : TTab) (ow : List Nat) (nt : Nat) (ops : Array Oper) : List Nat → List (Nat × List Nat) → Env → St → (Env → St → Prop) → Prop
  | _, [], E, st, K => K E st
  | done, (i, chk) :: r, E, st, K => match ops.toList[i]? with
    | some o => match wantF ops o E with
      | some true => match callOf E o.op with
        | some (some (f, args)) => PC P f args st fun x st' => chkF tt nt ops (put nt o.dst E x) st' chk ∧ GO P tt ow nt ops (i :: done) r (put nt o.dst E x) st' K
        | some none => False
        | none => match stepF tt ow nt o E st with
          | some (E', st') => match isEff ow o with
            | true => chkF tt nt ops E' st' chk ∧ drawH P tt ow nt ops (i :: done) r E' st' K
            | false => drawH P tt ow nt ops (i :: done) r E' st' K
          | none => False
      | some false => drawH P tt ow nt ops (i :: done) r (put nt o.dst E (.val undef)) st K
      | none => False
    | none => False
theorem callEff {E : Env} {o : Oper} {z} (h : callOf E o.op = some z) : isEff ow o = true := by
  unfold callOf at h
  split at h
  · rename_i c ho
    split at h
    · rename_i f hf
      simp only [isEff, pureO, isLoad, ho, hf]
      rfl
    · cases h
  · cases h
theorem GO.go (ht : TT P tt) : ∀ {r : List (Nat × List Nat)} {done : List Nat} {E : Env} {st : St} {K : Env → St → Prop}, drawH P tt ow nt ops done r E st K → GO P tt ow nt ops done r E st K
  | [], done, E, st, K, h, s => DO.core ht s (fun _ => h) (by intro e chk r' he; cases he)
  | (i, chk) :: r, done, E, st, K, h, s => by
    unfold drawH at h
    split at h
    · rename_i o ho
      rw [Array.getElem?_toList] at ho
      split at h
      · rename_i hw
        split at h
        · rename_i f args hc
          refine DO.core ht s (by intro e; cases e) ?_
          rintro _ _ _ ⟨⟩
          refine ⟨o, ho, callEff hc, fun F hF => ⟨by rw [wantF_congr hF]; exact hw, ?_⟩⟩
          rw [← callOf_congr (looks_vl hF)] at hc
          unfold callOf at hc
          split at hc
          · rename_i c hoc
            split at hc
            · rename_i g hg
              split at hc
              · rename_i fn fs cs hf
                split at hc
                · rename_i ags has
                  cases hc
                  simp only [pOp, hoc, hg]
                  exact ⟨f, fs, cs, ags, by rw [← vl_eq]; exact hf, by rw [← vls_eq]; exact has, h.mono fun x st' hx => ⟨x, rfl, chkF_ok s.dst hx.1, hx.2 s.next.1⟩⟩
                · cases hc
              · cases hc
            · cases hc
          · cases hc
        · exact h.elim
        · rename_i hc
          split at h
          · rename_i E' st' hst
            split at h
            · rename_i he
              refine DO.core ht s (by intro e; cases e) ?_
              rintro _ _ _ ⟨⟩
              refine ⟨o, ho, he, fun F hF => ⟨by rw [wantF_congr hF]; exact hw, ?_⟩⟩
              obtain ⟨x, rfl, e2⟩ := stepF_congr (looks_vl hF) hst
              exact stepF_ok e2 ⟨x, rfl, chkF_ok s.dst h.1, GO.go ht h.2 s.next.1⟩
            · rename_i he
              obtain ⟨x, rfl, e2⟩ := stepF_congr (fun _ _ => rfl) hst
              have hsw : stepW tt ow nt ops o E st = some (put nt o.dst E x, st') := by
                unfold stepW
                (try simp only [hw, hc])
                exact hst
              have hss : st' = st := by
                simp only [isEff, Bool.not_eq_false', Bool.or_eq_true] at he
                rcases he with he | he
                · exact (stepW_pure he hsw st).1
                · exact stepW_load he hsw
              subst hss
              exact DO.read s ho hsw (GO.go ht h s.next.1)
          · exact h.elim
      · rename_i hw
        refine DO.read s ho ?_ (GO.go ht h s.next.1)
        unfold stepW
        rw [hw]
      · exact h.elim
    · exact h.elim
theorem Inv.drew {G : Gh} {st : St} {w : World} (h : Inv G st w) (n : Nat) : Inv G st { w with drawn := n } :=
  ⟨⟨h.kept.os, h.kept.tape, h.kept.output, h.kept.size, h.kept.block⟩, h.dat, h.rlen, h.box, h.inj, h.own, h.apart, h.fresh, h.laid⟩
theorem PW.draw (ht : TT P tt) (hm : P.follows .mixedOrders = true) (ow : List Nat) {id : Nat} {Q : Exit → Env → St → Prop} {env : Env} {st : St} (ord : List (Nat × List Nat)) (hok : drawOK nt ow ops ord = true)
    (h : ∀ K : Env → St → Prop, (∀ env st, Q .normal env st → K env st) → drawH P tt ow nt ops [] ord env st K) : PW P nt (.region id ops true) Q env st := by
  intro G a w hi ha
  refine wp_region_any hm ?_
  have h1 := GO.go ht (h _ fun _ _ h => h) (Sta.of hok) (Array.replicate ops.size false) a _ G (PostE G nt Q) (by simp) (by
    intro i hi
    rw [Array.getElem?_replicate] at hi
    split at hi <;> cases hi) (by simp) (hi.drew (w.drawn + 1)) (ha.of_get fun t x e => by
    rw [eg_hide] at e
    split at e
    · cases e
    · exact e) fun G' env' st' a' w' h1 h2 h3 h4 => ⟨G', env', st', h1, h2, h3, h4⟩
  have hc : (Array.replicate ops.size false).toList.count false = ops.size := by simp
  rw [hc] at h1
  exact h1
/-- A region in any order, and what stands behind it under a name. -/
theorem PW.draws (ht : TT P tt) (hm : P.follows .mixedOrders = true) (ow : List Nat) {id : Nat} {y : Code} {Q : Exit → Env → St → Prop} {env : Env} {st : St} (ord : List (Nat × List Nat)) (hok : drawOK nt ow ops ord = true)
    (h : ∀ K : Env → St → Prop, (∀ env st, PW P nt y Q env st → K env st) → drawH P tt ow nt ops [] ord env st K) : PW P nt (.seq (.region id ops true) y) Q env st :=
  PW.seq_k fun K hK => PW.draw ht hm ow ord hok fun K' hK' => h K' fun env st hp => hK' env st (hK env st hp)
end
end Go.Proofs.YtolhbjfaahcekaaDoor
end
section
/- A scope without a jump back. -/
set_option linter.unusedVariables false
set_option linter.unusedSimpArgs false
namespace Go.Proofs.YtolhbjfaahcekaaDoor
def NoGoto (Q : Exit → Env → St → Prop) : Exit → Env → St → Prop
  | .goto _, _, _ => False
  | e, env, st => Q e env st
theorem PW.scope {P : Program} {nt : Nat} {Q : Exit → Env → St → Prop} {env : Env} {st : St} {c : Code} (h : PW P nt c (NoGoto Q) env st) : PW P nt (.scope c) Q env st := by
  intro G a w hi ha
  refine wp_scope_straight (wp_mono (h G a w hi ha) fun e a w p => ?_)
  obtain ⟨G', env', st', h1, h2, h3, h4⟩ := p
  cases e <;> first | exact h4.elim | exact ⟨G', env', st', h1, h2, h3, h4⟩
/-- One more object, with nothing in it: what was nil may be taken for it (Weak.nil). -/
theorem PW.adopt {P : Program} {nt : Nat} {Q : Exit → Env → St → Prop} {env : Env} {st : St} {c : Code} (h : PW P nt c Q env { st with len := st.len ++ [0] }) : PW P nt c Q env st :=
  fun G a w hi ha => h G a w hi.addLen ha
end Go.Proofs.YtolhbjfaahcekaaDoor
end
section
/- The rules as one set of rewrites. -/
set_option linter.unusedVariables false
set_option linter.unusedSimpArgs false
namespace Go.Proofs.YtolhbjfaahcekaaDoor
attribute [go_sem ↓] drawH chkF wantF isEff pureO isLoad runF callOf stepF
attribute [go_sem] Bool.or_false Bool.or_true Bool.false_or Bool.true_or Holds gval_undef gval_bool put vl vls vlo vlParts eg ofC argsEnv owns fBin pNil fCut fField fldOf ldPV stPV splice fillPV dense cells_int isAgg_int isCell_int cells_bool isAgg_bool isCell_bool cells_str isAgg_str isCell_str cells_list isAgg_list isCell_list cells_ref isAgg_ref isCell_ref cells_elem isAgg_elem isCell_elem cells_agg isAgg_agg isCell_agg cells_tup isAgg_tup isCell_tup cells_clo isAgg_clo isCell_clo cells_val isAgg_val isCell_val gdOf resAll resOne resPV cond_true cond_false beq_self_eq_true List.getElem?_cons_zero List.getElem?_cons_succ List.getElem?_nil List.length_cons List.length_nil List.length_append List.length_map List.length_set List.set_cons_zero List.set_cons_succ List.take_succ_cons List.take_zero List.drop_succ_cons List.drop_zero List.take_nil List.drop_nil List.cons_append List.nil_append List.append_nil List.map_cons List.map_nil List.all_cons List.all_nil List.contains_cons List.contains_nil List.getElem?_map List.getElem?_append List.toList_toArray beq_true beq_false Option.some.injEq Option.bind_some Option.map_some Option.map_none exists_eq_left' exists_eq' exists_eq exists_eq_left exists_and_left exists_and_right and_true true_and if_true if_false ite_true ite_false Bool.and_true Bool.true_and Bool.and_self Bool.not_true Bool.not_false Bool.false_eq_true decide_true decide_false eq_self PV.int.injEq PV.list.injEq PV.clo.injEq PV.agg.injEq PV.str.injEq PV.bool.injEq PV.ref.injEq TK.slice.injEq Fn.func.injEq and_assoc forall_eq forall_const true_implies Nat.le_refl Nat.zero_add Nat.add_zero Int.toNat_zero Int.toNat_one ne_eq not_false_eq_true not_true_eq_false Nat.lt_irrefl and_self Int.le_refl List.mem_cons List.not_mem_nil or_false forall_eq_or_imp Nat.succ_ne_self
end Go.Proofs.YtolhbjfaahcekaaDoor
end
section
/- Tokens, faults: the data of the lexer and the parser. -/
set_option linter.unusedVariables false
set_option linter.unusedSimpArgs false
namespace Go.Proofs.YtolhbjfaahcekaaDoor
open Go

abbrev Str := List UInt8
theorem mixed : Tryd.prog.follows .mixedOrders = true := by kernel_rfl
structure Tok where
  kind : Int
  text : List UInt8
  num : Int
  at_ : Int
def Tok.z (t : Tok) : Tok := { t with at_ := 0 }
def tokPV (t : Tok) : PV := .agg [.int .i64 t.kind, .str t.text, .int .i64 t.num, .int .i64 t.at_]
theorem tok_clean (n m : Nat) (t : Tok) : PV.clean n m (tokPV t) = true := rfl
theorem wrap_nat {n : Nat} (h : n ≤ 4611686018427387904) : IntKind.i64.wrap (n : Int) = (n : Int) := by
  simp only [IntKind.wrap, IntKind.bits, IntKind.signed]
  simp
  omega
def tok0 : Tok := ⟨0, [], 0, 0⟩
theorem Weak.tup {xs ys : List PV} (h : Weaks xs ys) : Weak (.tup xs) (.tup ys) := fun G v hr => by
  cases hr with
  | tup _ _ h' => exact .tup _ _ (h.reps h')
theorem Pure.finw {tt : TTab} {rs : List ResultVar} {x : PV} {env : Env} {st : St} {xs : List PV} {e : Exit} (he : e = .ret ∨ e = .normal) (hr : resAll tt env st rs = some xs) (hR : Weak (resPV xs) x) (hx : PV.clean 0 0 x = true) :
    Ends tt rs ⟨[], []⟩ (fun r st' => r = x ∧ st' = ⟨[], []⟩) e env st :=
  ⟨he, xs, x, ⟨[], []⟩, hr, hR, ⟨by simp, by simp, by simp⟩, by simp, by simp, hx, rfl, rfl⟩
theorem res_cell2 {tt : TTab} {env : Env} {st : St} {b b2 : Nat} {t t2 : TypeId} {p p2 x x2 : PV} {y y2 : TyI} (h1 : eget env b = some p) (h2 : tt t = some y) (h3 : ldPV y st p = some x) (h4 : eget env b2 = some p2) (h5 : tt t2 = some y2) (h6 : ldPV y2 st p2 = some x2) :
    resAll tt env st [.cell b t, .cell b2 t2] = some [x, x2] := by
  simp [resAll, resOne, h1, h2, h3, h4, h5, h6]
/-- A fault: its code, its place. -/
structure Ft where
  c : Int
  a : Int
def ftPV (f : Ft) : PV := .agg [.int .i64 f.c, .int .i64 f.a]
def toksPV (l : List Tok) : PV := .list 4 (l.map tokPV) .no
theorem toks_clean (l : List Tok) : PV.clean 0 0 (toksPV l) = true := by
  simp only [toksPV, PV.clean, clean_map (tok_clean 0 0)]; rfl
/-! ### Values, expressions -/
structure Vl where
  k : Int
  n : Int
  t : Str
inductive Ex where
  | mk (k o : Int) (t n : Str) (v : Vl) (l : List Ex)
def vC (v : Vl) : List PV := [.int .i64 v.k, .int .i64 v.n, .str v.t]
mutual
def exC : Ex → List PV
  | .mk k o t n v l => [.int .i64 k, .int .i64 o, .str t, .str n, .int .i64 v.k, .int .i64 v.n, .str v.t, .list 8 (exPVs l) .no]
def exPVs : List Ex → List PV
  | [] => []
  | e :: es => .agg (exC e) :: exPVs es
end
def exPV (e : Ex) : PV := .agg (exC e)
theorem agg_exC (e : Ex) : PV.agg (exC e) = exPV e := rfl
theorem exPV_cells (e : Ex) : (exPV e).cells = exC e := rfl
theorem exPVs_eq (l : List Ex) : exPVs l = l.map exPV := by
  induction l with
  | nil => rfl
  | cons e l ih => simp only [exPVs, List.map_cons, ih]; rfl
theorem exC_len (e : Ex) : (exC e).length = 8 := by cases e; rfl
theorem exC_all (e : Ex) : (exC e).all PV.isCell = true := by cases e; rfl
theorem exC_take (e : Ex) : (exC e).take 8 = exC e := by cases e; rfl
theorem exC_drop (e : Ex) : (exC e).drop 8 = [] := by cases e; rfl
theorem exPV_isCell (e : Ex) : (exPV e).isCell = false := rfl
mutual
theorem ex_clean : ∀ e : Ex, PVs.clean 0 0 (exC e) = true
  | .mk k o t n v l => by simp [exC, PVs.clean, PV.clean, exs_clean l]
theorem exs_clean : ∀ l : List Ex, PVs.clean 0 0 (exPVs l) = true
  | [] => rfl
  | e :: es => by simp [exPVs, PVs.clean, PV.clean, ex_clean e, exs_clean es]
end
theorem exPV_clean (e : Ex) : PV.clean 0 0 (exPV e) = true := by simp [exPV, PV.clean, ex_clean]
def v0 : Vl := ⟨0, 0, []⟩
def ex0 : Ex := .mk 0 0 [] [] v0 []
theorem ex_weak (k o : Int) (t n : Str) (a b : Int) (c : Str) : Weak (.agg [.int .i64 k, .int .i64 o, .str t, .str n, .int .i64 a, .int .i64 b, .str c, .list 0 [] .nil]) (exPV (.mk k o t n ⟨a, b, c⟩ [])) := by
  refine Weak.agg ?_ ?_
  · simp [exC, exPVs, Weak.nil]
  · intro y hy
    simp only [exC, List.mem_cons, List.not_mem_nil, or_false] at hy
    rcases hy with rfl | rfl | rfl | rfl | rfl | rfl | rfl | rfl <;> rfl
theorem Boxes.refl : ∀ {box : List (List PV)}, (∀ cs ∈ box, ∀ c ∈ cs, c.isCell = true) → Boxes box box
  | [], _ => .nil
  | x :: xs, h => .cons (Weaks.refl x) (h x (by simp)) (Boxes.refl fun cs hc => h cs (by simp [hc]))
end Go.Proofs.YtolhbjfaahcekaaDoor
end
section
/- slices.Index and slices.Contains of texts. -/
set_option linter.unusedVariables false
set_option linter.unusedSimpArgs false
namespace Go.Proofs.YtolhbjfaahcekaaDoor
open Go

def strs (ls : List (List UInt8)) : List PV := ls.map .str
theorem strs_clean (ls : List (List UInt8)) : PVs.clean 0 0 (strs ls) = true := clean_map (fun _ => rfl) ls
/-- Where a text stands first; -1: nowhere. -/
def idxF : List (List UInt8) → List UInt8 → Int
  | [], _ => -1
  | l :: ls, x => if l = x then 0 else if idxF ls x < 0 then -1 else idxF ls x + 1
theorem idx_nil {ls : List (List UInt8)} {x : List UInt8} (h : ∀ (j : Nat) (l : List UInt8), ls[j]? = some l → l ≠ x) : idxF ls x = -1 := by
  induction ls with
  | nil => rfl
  | cons l ls ih =>
    have h0 := h 0 l rfl
    have := ih fun j y e => h (j + 1) y (by simpa using e)
    simp only [idxF, if_neg h0, this]
    rfl
theorem idx_at : ∀ {ls : List (List UInt8)} {x : List UInt8} (k : Nat), ls[k]? = some x → (∀ (j : Nat) (l : List UInt8), j < k → ls[j]? = some l → l ≠ x) → idxF ls x = k
  | [], x, k, h, _ => by simp at h
  | l :: ls, x, 0, h, _ => by simp at h; subst h; simp [idxF]
  | l :: ls, x, k + 1, h, hn => by
    have h0 := hn 0 l (by omega) rfl
    have := idx_at k (by simpa using h) fun j y hj e => hn (j + 1) y (by omega) (by simpa using e)
    simp only [idxF, if_neg h0, this]
    rw [if_neg (by omega)]
    omega

theorem index_pc (ls : List (List UInt8)) (x : List UInt8) (hl : ls.length ≤ 4611686018427387903) :
    Pure Tryd.prog 41 [.list 1 (strs ls) .no, .str x] (.int .i64 (idxF ls x)) := by
  refine PC.intro tab_ok Tryd.func41 rfl (by kernel_rfl) Tryd.ntmps41 (Nat.le_of_ble_eq_true rfl) (rs := _) (congrArg Array.toList Tryd.results41) ?_
  refine PW.go tab_ok [] fun K hK => ?_
  simp only [go_sem, ↓reduceIte, reduceCtorEq, Nat.reduceBEq, Nat.reduceAdd, Nat.reduceMul, Nat.reduceSub, Nat.reduceLT, Nat.reduceLeDiff, Nat.reduceEqDiff]
  (refine hK _ _ ?_; (try clear hK); (try clear K))
  refine PW.seq_k fun K hK => ?_
  refine PW.go tab_ok [] fun K2 hK2 => ?_
  simp only [go_sem, ↓reduceIte, reduceCtorEq, Nat.reduceBEq, Nat.reduceAdd, Nat.reduceMul, Nat.reduceSub, Nat.reduceLT, Nat.reduceLeDiff, Nat.reduceEqDiff]
  refine hK2 _ _ ?_
  clear hK2 K2
  refine PW.block (PW.loop (α := Nat) (fun k => [(8, .int .i64 (k : Int)), (7, .int .i64 (ls.length : Int)), (0, .list 1 (strs ls) .no), (1, .str x)]) (fun _ => ⟨[], []⟩)
    (fun k => k ≤ ls.length ∧ ∀ (j : Nat) (l : List UInt8), j < k → ls[j]? = some l → l ≠ x) (fun k => ls.length - k) 0 ⟨Nat.zero_le _, fun j l h => by omega⟩ ?_ rfl (fun _ _ => ⟨rfl, rfl⟩) ?_)
  · simp [Sub, eget, strs]
  rintro k ⟨hk, hno⟩
  refine PW.go tab_ok [] fun K hK => ?_
  simp only [go_sem, ↓reduceIte, reduceCtorEq, Nat.reduceBEq, Nat.reduceAdd, Nat.reduceMul, Nat.reduceSub, Nat.reduceLT, Nat.reduceLeDiff, Nat.reduceEqDiff]
  (refine hK _ _ ?_; (try clear hK); (try clear K))
  refine PW.seq_k fun K2 hK2 => ?_
  refine PW.cond_split (b := decide ((k : Int) < (ls.length : Int))) rfl ?_ ?_ <;> intro hc
  · have hlt : k < ls.length := by simpa using hc
    refine PW.skip (hK2 _ _ ?_)
    clear hK2 K2
    refine PW.seq_k fun K3 hK3 => PW.block ?_
    refine PW.go tab_ok [] fun K hK => ?_
    simp only [go_sem, ↓reduceIte, reduceCtorEq, Nat.reduceBEq, Nat.reduceAdd, Nat.reduceMul, Nat.reduceSub, Nat.reduceLT, Nat.reduceLeDiff, Nat.reduceEqDiff]
    (refine hK _ _ ?_; (try clear hK); (try clear K))
    have hget : (strs ls)[((k : Int)).toNat]? = some (.str ls[k]) := by simp [strs, hlt]
    have h0 : (0 : Int) ≤ (k : Int) := by omega
    refine PW.go tab_ok [] fun K hK => ?_
    simp only [hget, h0, go_sem, ↓reduceIte, reduceCtorEq, Nat.reduceBEq, Nat.reduceAdd, Nat.reduceMul, Nat.reduceSub, Nat.reduceLT, Nat.reduceLeDiff, Nat.reduceEqDiff]
    (refine hK _ _ ?_; (try clear hK); (try clear K))
    refine PW.cond_split (b := x == ls[k]) rfl ?_ ?_ <;> intro hc2
    · have he : ls[k] = x := by simpa using (beq_iff_eq.1 hc2).symm
      refine PW.go tab_ok [] fun K hK => ?_
      simp only [go_sem, ↓reduceIte, reduceCtorEq, Nat.reduceBEq, Nat.reduceAdd, Nat.reduceMul, Nat.reduceSub, Nat.reduceLT, Nat.reduceLeDiff, Nat.reduceEqDiff]
      (refine hK _ _ ?_; (try clear hK); (try clear K))
      exact PW.ret (Pure.ret rfl (by rw [idx_at k (by rw [List.getElem?_eq_getElem hlt, he]) hno]; rfl) rfl)
    · have he : ls[k] ≠ x := fun e => by rw [e] at hc2; simp at hc2
      refine PW.skip (hK3 _ _ ?_)
      refine PW.goL tab_ok [] fun K hK => ?_
      simp only [go_sem, ↓reduceIte, reduceCtorEq, Nat.reduceBEq, Nat.reduceAdd, Nat.reduceMul, Nat.reduceSub, Nat.reduceLT, Nat.reduceLeDiff, Nat.reduceEqDiff]
      (refine hK _ _ ?_; (try clear hK); (try clear K))
      refine ⟨k + 1, ⟨by omega, ?_⟩, by omega, ?_, ⟨by simp, rfl, by simp⟩, by simp [Env.clean, PV.clean, strs_clean]⟩
      · intro j l hj e
        rcases Nat.lt_or_ge j k with h | h
        · exact hno j l h e
        · have : j = k := by omega
          subst this
          rw [List.getElem?_eq_getElem hlt] at e
          injection e with e
          rw [← e]; exact he
      · have hw : IntKind.i64.wrap ((k : Int) + 1) = ((k + 1 : Nat) : Int) := by
          rw [show (k : Int) + 1 = ((k + 1 : Nat) : Int) from by omega]
          exact wrap_nat (by omega)
        simp [Sub, eget, hw]
  · have hge : k = ls.length := by simp at hc; omega
    subst hge
    refine PW.exit (hK _ _ ?_)
    clear hK hK2 K2 K
    refine PW.go tab_ok [] fun K hK => ?_
    simp only [go_sem, ↓reduceIte, reduceCtorEq, Nat.reduceBEq, Nat.reduceAdd, Nat.reduceMul, Nat.reduceSub, Nat.reduceLT, Nat.reduceLeDiff, Nat.reduceEqDiff]
    (refine hK _ _ ?_; (try clear hK); (try clear K))
    refine PW.ret (Pure.ret rfl ?_ rfl)
    rw [idx_nil fun j l e => hno j l (by have := (List.getElem?_eq_some_iff.1 e).1; exact this) e]
    rfl
theorem contains_pc (ls : List (List UInt8)) (x : List UInt8) (hl : ls.length ≤ 4611686018427387903) :
    Pure Tryd.prog 31 [.list 1 (strs ls) .no, .str x] (.bool (decide (idxF ls x ≥ 0))) := by
  refine PC.intro tab_ok Tryd.func31 rfl (by kernel_rfl) Tryd.ntmps31 (Nat.le_of_ble_eq_true rfl) (rs := _) (congrArg Array.toList Tryd.results31) ?_
  refine PW.go tab_ok [] fun K hK => ?_
  simp only [go_sem, ↓reduceIte, reduceCtorEq, Nat.reduceBEq, Nat.reduceAdd, Nat.reduceMul, Nat.reduceSub, Nat.reduceLT, Nat.reduceLeDiff, Nat.reduceEqDiff]
  (refine hK _ _ ?_; (try clear hK); (try clear K))
  refine PW.go tab_ok [] fun K hK => ?_
  simp only [go_sem, ↓reduceIte, reduceCtorEq, Nat.reduceBEq, Nat.reduceAdd, Nat.reduceMul, Nat.reduceSub, Nat.reduceLT, Nat.reduceLeDiff, Nat.reduceEqDiff]
  refine (index_pc ls x hl).use (Weaks.refl _) (by simp [PVs.clean, PV.clean, strs_clean]) rfl ?_
  refine PO.go tab_ok [] ?_
  simp only [go_sem, ↓reduceIte, reduceCtorEq, Nat.reduceBEq, Nat.reduceAdd, Nat.reduceMul, Nat.reduceSub, Nat.reduceLT, Nat.reduceLeDiff, Nat.reduceEqDiff]
  (refine hK _ _ ?_; (try clear hK); (try clear K))
  exact PW.ret (Pure.ret rfl rfl rfl)
end Go.Proofs.YtolhbjfaahcekaaDoor
end
section
/- The lexer: kinds of bytes, rows of bytes. -/
set_option linter.unusedVariables false
set_option linter.unusedSimpArgs false
namespace Go.Proofs.YtolhbjfaahcekaaDoor
open Go

def bPV (c : UInt8) : PV := .int .u8 (c.toNat : Int)
def firstB (c : UInt8) : Bool := decide ((c.toNat : Int) ≥ 97) && decide ((c.toNat : Int) ≤ 122) || ((c.toNat : Int) == 95)
def greatB (c : UInt8) : Bool := decide ((c.toNat : Int) ≥ 65) && decide ((c.toNat : Int) ≤ 90)
def digitB (c : UInt8) : Bool := decide ((c.toNat : Int) ≥ 48) && decide ((c.toNat : Int) ≤ 57)
def smallB (c : UInt8) : Bool := firstB c || digitB c
def lineB (c : UInt8) : Bool := (c.toNat : Int) != 10
/-- A test of a byte. -/
def Bt (g : FuncId) (p : UInt8 → Bool) : Prop := ∀ c, Pure Tryd.prog g [bPV c] (.bool (p c))

theorem great_pc : Bt 19 greatB := by
  intro c
  refine PC.intro tab_ok Tryd.func19 rfl (by kernel_rfl) Tryd.ntmps19 (Nat.le_of_ble_eq_true rfl) (rs := _) (congrArg Array.toList Tryd.results19) ?_
  refine PW.go tab_ok [] fun K hK => ?_
  simp only [go_sem, ↓reduceIte, reduceCtorEq, Nat.reduceBEq, Nat.reduceAdd, Nat.reduceMul, Nat.reduceSub, Nat.reduceLT, Nat.reduceLeDiff, Nat.reduceEqDiff]
  (refine hK _ _ ?_; (try clear hK); (try clear K))
  refine PW.go tab_ok [] fun K hK => ?_
  cases h1 : decide ((c.toNat : Int) ≥ 65)
  · simp only [bPV, h1, go_sem, ↓reduceIte, reduceCtorEq, Nat.reduceBEq, Nat.reduceAdd, Nat.reduceMul, Nat.reduceSub, Nat.reduceLT, Nat.reduceLeDiff, Nat.reduceEqDiff]
    (refine hK _ _ ?_; (try clear hK); (try clear K))
    exact PW.ret (Pure.ret rfl (by simp [greatB, h1, resPV]) rfl)
  · simp only [bPV, h1, go_sem, ↓reduceIte, reduceCtorEq, Nat.reduceBEq, Nat.reduceAdd, Nat.reduceMul, Nat.reduceSub, Nat.reduceLT, Nat.reduceLeDiff, Nat.reduceEqDiff]
    (refine hK _ _ ?_; (try clear hK); (try clear K))
    exact PW.ret (Pure.ret rfl (by simp [greatB, h1, resPV]) rfl)
theorem digit_pc : Bt 20 digitB := by
  intro c
  refine PC.intro tab_ok Tryd.func20 rfl (by kernel_rfl) Tryd.ntmps20 (Nat.le_of_ble_eq_true rfl) (rs := _) (congrArg Array.toList Tryd.results20) ?_
  refine PW.go tab_ok [] fun K hK => ?_
  simp only [go_sem, ↓reduceIte, reduceCtorEq, Nat.reduceBEq, Nat.reduceAdd, Nat.reduceMul, Nat.reduceSub, Nat.reduceLT, Nat.reduceLeDiff, Nat.reduceEqDiff]
  (refine hK _ _ ?_; (try clear hK); (try clear K))
  refine PW.go tab_ok [] fun K hK => ?_
  cases h1 : decide ((c.toNat : Int) ≥ 48)
  · simp only [bPV, h1, go_sem, ↓reduceIte, reduceCtorEq, Nat.reduceBEq, Nat.reduceAdd, Nat.reduceMul, Nat.reduceSub, Nat.reduceLT, Nat.reduceLeDiff, Nat.reduceEqDiff]
    (refine hK _ _ ?_; (try clear hK); (try clear K))
    exact PW.ret (Pure.ret rfl (by simp [digitB, h1, resPV]) rfl)
  · simp only [bPV, h1, go_sem, ↓reduceIte, reduceCtorEq, Nat.reduceBEq, Nat.reduceAdd, Nat.reduceMul, Nat.reduceSub, Nat.reduceLT, Nat.reduceLeDiff, Nat.reduceEqDiff]
    (refine hK _ _ ?_; (try clear hK); (try clear K))
    exact PW.ret (Pure.ret rfl (by simp [digitB, h1, resPV]) rfl)
theorem line_pc : Bt 15 lineB := by
  intro c
  refine PC.intro tab_ok Tryd.func15 rfl (by kernel_rfl) Tryd.ntmps15 (Nat.le_of_ble_eq_true rfl) (rs := _) (congrArg Array.toList Tryd.results15) ?_
  refine PW.go tab_ok [] fun K hK => ?_
  simp only [go_sem, ↓reduceIte, reduceCtorEq, Nat.reduceBEq, Nat.reduceAdd, Nat.reduceMul, Nat.reduceSub, Nat.reduceLT, Nat.reduceLeDiff, Nat.reduceEqDiff]
  (refine hK _ _ ?_; (try clear hK); (try clear K))
  refine PW.go tab_ok [] fun K hK => ?_
  simp only [bPV, go_sem, ↓reduceIte, reduceCtorEq, Nat.reduceBEq, Nat.reduceAdd, Nat.reduceMul, Nat.reduceSub, Nat.reduceLT, Nat.reduceLeDiff, Nat.reduceEqDiff]
  (refine hK _ _ ?_; (try clear hK); (try clear K))
  exact PW.ret (Pure.ret rfl rfl rfl)
theorem first_pc : Bt 17 firstB := by
  intro c
  refine PC.intro tab_ok Tryd.func17 rfl (by kernel_rfl) Tryd.ntmps17 (Nat.le_of_ble_eq_true rfl) (rs := _) (congrArg Array.toList Tryd.results17) ?_
  refine PW.go tab_ok [] fun K hK => ?_
  simp only [go_sem, ↓reduceIte, reduceCtorEq, Nat.reduceBEq, Nat.reduceAdd, Nat.reduceMul, Nat.reduceSub, Nat.reduceLT, Nat.reduceLeDiff, Nat.reduceEqDiff]
  (refine hK _ _ ?_; (try clear hK); (try clear K))
  refine PW.go tab_ok [] fun K hK => ?_
  cases h1 : decide ((c.toNat : Int) ≥ 97)
  · simp only [bPV, h1, go_sem, ↓reduceIte, reduceCtorEq, Nat.reduceBEq, Nat.reduceAdd, Nat.reduceMul, Nat.reduceSub, Nat.reduceLT, Nat.reduceLeDiff, Nat.reduceEqDiff]
    (refine hK _ _ ?_; (try clear hK); (try clear K))
    exact PW.ret (Pure.ret rfl (by simp [firstB, h1, resPV]) rfl)
  · cases h2 : decide ((c.toNat : Int) ≤ 122)
    · simp only [bPV, h1, h2, go_sem, ↓reduceIte, reduceCtorEq, Nat.reduceBEq, Nat.reduceAdd, Nat.reduceMul, Nat.reduceSub, Nat.reduceLT, Nat.reduceLeDiff, Nat.reduceEqDiff]
      (refine hK _ _ ?_; (try clear hK); (try clear K))
      exact PW.ret (Pure.ret rfl (by simp [firstB, h1, h2, resPV]) rfl)
    · simp only [bPV, h1, h2, go_sem, ↓reduceIte, reduceCtorEq, Nat.reduceBEq, Nat.reduceAdd, Nat.reduceMul, Nat.reduceSub, Nat.reduceLT, Nat.reduceLeDiff, Nat.reduceEqDiff]
      (refine hK _ _ ?_; (try clear hK); (try clear K))
      exact PW.ret (Pure.ret rfl (by simp [firstB, h1, h2, resPV]) rfl)
theorem small_pc : Bt 18 smallB := by
  intro c
  refine PC.intro tab_ok Tryd.func18 rfl (by kernel_rfl) Tryd.ntmps18 (Nat.le_of_ble_eq_true rfl) (rs := _) (congrArg Array.toList Tryd.results18) ?_
  refine PW.go tab_ok [] fun K hK => ?_
  simp only [go_sem, ↓reduceIte, reduceCtorEq, Nat.reduceBEq, Nat.reduceAdd, Nat.reduceMul, Nat.reduceSub, Nat.reduceLT, Nat.reduceLeDiff, Nat.reduceEqDiff]
  (refine hK _ _ ?_; (try clear hK); (try clear K))
  refine PW.go tab_ok [] fun K hK => ?_
  simp only [go_sem, ↓reduceIte, reduceCtorEq, Nat.reduceBEq, Nat.reduceAdd, Nat.reduceMul, Nat.reduceSub, Nat.reduceLT, Nat.reduceLeDiff, Nat.reduceEqDiff]
  refine (first_pc c).use (Weaks.refl _) rfl rfl ?_
  refine PO.go tab_ok [] ?_
  cases h1 : firstB c
  · simp only [go_sem, ↓reduceIte, reduceCtorEq, Nat.reduceBEq, Nat.reduceAdd, Nat.reduceMul, Nat.reduceSub, Nat.reduceLT, Nat.reduceLeDiff, Nat.reduceEqDiff]
    refine (digit_pc c).use (Weaks.refl _) rfl rfl ?_
    refine PO.go tab_ok [] ?_
    simp only [go_sem, ↓reduceIte, reduceCtorEq, Nat.reduceBEq, Nat.reduceAdd, Nat.reduceMul, Nat.reduceSub, Nat.reduceLT, Nat.reduceLeDiff, Nat.reduceEqDiff]
    (refine hK _ _ ?_; (try clear hK); (try clear K))
    exact PW.ret (Pure.ret rfl (by simp [smallB, h1, resPV]) rfl)
  · simp only [go_sem, ↓reduceIte, reduceCtorEq, Nat.reduceBEq, Nat.reduceAdd, Nat.reduceMul, Nat.reduceSub, Nat.reduceLT, Nat.reduceLeDiff, Nat.reduceEqDiff]
    (refine hK _ _ ?_; (try clear hK); (try clear K))
    exact PW.ret (Pure.ret rfl (by simp [smallB, h1, resPV]) rfl)
end Go.Proofs.YtolhbjfaahcekaaDoor
end
section
/- The lexer: beginnings, rows of bytes, words and signs. -/
set_option linter.unusedVariables false
set_option linter.unusedSimpArgs false
namespace Go.Proofs.YtolhbjfaahcekaaDoor
open Go

def prefB (s p : Str) : Bool := decide ((s.length : Int) ≥ (p.length : Int)) && (s.take p.length == p)
theorem prefix_pc (s p : Str) : Pure Tryd.prog 25 [.str s, .str p] (.bool (prefB s p)) := by
  refine PC.intro tab_ok Tryd.func25 rfl (by kernel_rfl) Tryd.ntmps25 (Nat.le_of_ble_eq_true rfl) (rs := _) (congrArg Array.toList Tryd.results25) ?_
  refine PW.go tab_ok [] fun K hK => ?_
  simp only [go_sem, ↓reduceIte, reduceCtorEq, Nat.reduceBEq, Nat.reduceAdd, Nat.reduceMul, Nat.reduceSub, Nat.reduceLT, Nat.reduceLeDiff, Nat.reduceEqDiff]
  (refine hK _ _ ?_; (try clear hK); (try clear K))
  refine PW.go tab_ok [] fun K hK => ?_
  cases h1 : decide ((s.length : Int) ≥ (p.length : Int))
  · simp only [h1, go_sem, ↓reduceIte, reduceCtorEq, Nat.reduceBEq, Nat.reduceAdd, Nat.reduceMul, Nat.reduceSub, Nat.reduceLT, Nat.reduceLeDiff, Nat.reduceEqDiff]
    (refine hK _ _ ?_; (try clear hK); (try clear K))
    exact PW.ret (Pure.ret rfl (by simp only [prefB, h1, resPV, Bool.false_and]) rfl)
  · have h2 : (0 : Int) ≤ (p.length : Int) ∧ (p.length : Int) ≤ (s.length : Int) := ⟨by omega, by simpa using h1⟩
    have h3 : (0 : Int) ≤ (p.length : Int) := by omega
    have h4 : (p.length : Int) ≤ (s.length : Int) := by simpa using h1
    simp only [h1, h3, h4, Int.toNat_natCast, go_sem, ↓reduceIte, reduceCtorEq, Nat.reduceBEq, Nat.reduceAdd, Nat.reduceMul, Nat.reduceSub, Nat.reduceLT, Nat.reduceLeDiff, Nat.reduceEqDiff]
    (refine hK _ _ ?_; (try clear hK); (try clear K))
    exact PW.ret (Pure.ret rfl (by simp only [prefB, h1, resPV, Bool.true_and, cond_true]) rfl)
theorem hasPrefix_pc (s p : Str) : Pure Tryd.prog 13 [.str s, .str p] (.bool (prefB s p)) := by
  refine PC.intro tab_ok Tryd.func13 rfl (by kernel_rfl) Tryd.ntmps13 (Nat.le_of_ble_eq_true rfl) (rs := _) (congrArg Array.toList Tryd.results13) ?_
  refine PW.go tab_ok [] fun K hK => ?_
  simp only [go_sem, ↓reduceIte, reduceCtorEq, Nat.reduceBEq, Nat.reduceAdd, Nat.reduceMul, Nat.reduceSub, Nat.reduceLT, Nat.reduceLeDiff, Nat.reduceEqDiff]
  (refine hK _ _ ?_; (try clear hK); (try clear K))
  refine PW.go tab_ok [] fun K hK => ?_
  simp only [go_sem, ↓reduceIte, reduceCtorEq, Nat.reduceBEq, Nat.reduceAdd, Nat.reduceMul, Nat.reduceSub, Nat.reduceLT, Nat.reduceLeDiff, Nat.reduceEqDiff]
  refine (prefix_pc s p).use (Weaks.refl _) rfl rfl ?_
  refine PO.go tab_ok [] ?_
  simp only [go_sem, ↓reduceIte, reduceCtorEq, Nat.reduceBEq, Nat.reduceAdd, Nat.reduceMul, Nat.reduceSub, Nat.reduceLT, Nat.reduceLeDiff, Nat.reduceEqDiff]
  (refine hK _ _ ?_; (try clear hK); (try clear K))
  exact PW.ret (Pure.ret rfl rfl rfl)
def rowN (p : UInt8 → Bool) (s : Str) : Nat := (s.takeWhile p).length
theorem rowN_eq {p : UInt8 → Bool} : ∀ {s : Str} {k : Nat}, (∀ (j : Nat) (c : UInt8), j < k → s[j]? = some c → p c = true) → (s[k]? = none ∧ k ≤ s.length ∨ ∃ c, s[k]? = some c ∧ p c = false) → rowN p s = k
  | [], 0, _, _ => rfl
  | [], k + 1, _, h => by
    rcases h with h | ⟨c, h, _⟩
    · simp at h
    · simp at h
  | x :: s, 0, _, h => by
    rcases h with h | ⟨c, h, hp⟩
    · simp at h
    · simp at h
      subst h
      simp [rowN, hp]
  | x :: s, k + 1, hj, h => by
    have hx := hj 0 x (by omega) rfl
    have := rowN_eq (p := p) (s := s) (k := k) (fun j c hlt e => hj (j + 1) c (by omega) (by simpa using e)) (by
      rcases h with h | ⟨c, h, hp⟩
      · exact .inl (by simpa using h)
      · exact .inr ⟨c, by simpa using h, hp⟩)
    simp only [rowN, List.takeWhile_cons, hx, if_true, List.length_cons]
    exact congrArg (· + 1) this
theorem rowN_le (p : UInt8 → Bool) (s : Str) : rowN p s ≤ s.length := (List.takeWhile_prefix p).length_le
theorem lexrow_pc {g : FuncId} {p : UInt8 → Bool} (hg : Bt g p) {s : Str} (hl : s.length ≤ 4611686018427387903) :
    Pure Tryd.prog 14 [.str s, .clo (.func g) [] []] (.int .i64 (rowN p s)) := by
  refine PC.intro tab_ok Tryd.func14 rfl (by kernel_rfl) Tryd.ntmps14 (Nat.le_of_ble_eq_true rfl) (rs := _) (congrArg Array.toList Tryd.results14) ?_
  refine PW.go tab_ok [] fun K hK => ?_
  simp only [go_sem, ↓reduceIte, reduceCtorEq, Nat.reduceBEq, Nat.reduceAdd, Nat.reduceMul, Nat.reduceSub, Nat.reduceLT, Nat.reduceLeDiff, Nat.reduceEqDiff]
  (refine hK _ _ ?_; (try clear hK); (try clear K))
  refine PW.go tab_ok [] fun K hK => ?_
  simp only [go_sem, ↓reduceIte, reduceCtorEq, Nat.reduceBEq, Nat.reduceAdd, Nat.reduceMul, Nat.reduceSub, Nat.reduceLT, Nat.reduceLeDiff, Nat.reduceEqDiff]
  (refine hK _ _ ?_; (try clear hK); (try clear K))
  refine PW.seq_k fun K0 hK0 => ?_
  refine PW.block (PW.loop (α := Nat) (fun k => [(5, .int .i64 (k : Int)), (0, .str s), (1, .clo (.func g) [] [])]) (fun k => ⟨[], []⟩)
    (fun k => k ≤ s.length ∧ ∀ (j : Nat) (c : UInt8), j < k → s[j]? = some c → p c = true) (fun k => s.length - k) 0 ⟨Nat.zero_le _, fun j c h => by omega⟩ ?_ rfl (fun _ _ => ⟨rfl, rfl⟩) ?_)
  · simp [Sub, eget]
  rintro k ⟨hk, hj⟩
  have hstop : ∀ {env : Env} {st : St}, Sub env [(5, .int .i64 (k : Int))] → st = ⟨[], []⟩ → rowN p s = k → K0 env st := by
    rintro env st hsub rfl hr
    refine hK0 _ _ (PW.less _ hsub ?_)
    refine PW.go tab_ok [] fun K hK => ?_
    simp only [go_sem, ↓reduceIte, reduceCtorEq, Nat.reduceBEq, Nat.reduceAdd, Nat.reduceMul, Nat.reduceSub, Nat.reduceLT, Nat.reduceLeDiff, Nat.reduceEqDiff]
    (refine hK _ _ ?_; (try clear hK); (try clear K))
    exact PW.ret (Pure.ret rfl (by rw [hr]; rfl) rfl)
  refine PW.seq_k fun K2 hK2 => ?_
  refine PW.go tab_ok [] fun K hK => ?_
  by_cases hlt : k < s.length
  · have h1 : decide ((k : Int) < (s.length : Int)) = true := by simpa using hlt
    have h0 : (0 : Int) ≤ (k : Int) := by omega
    have hget : s[((k : Int)).toNat]? = some s[k] := by simp [hlt]
    simp only [h1, h0, hget, go_sem, ↓reduceIte, reduceCtorEq, Nat.reduceBEq, Nat.reduceAdd, Nat.reduceMul, Nat.reduceSub, Nat.reduceLT, Nat.reduceLeDiff, Nat.reduceEqDiff]
    refine (hg s[k]).use (Weaks.refl _) rfl rfl ?_
    refine PO.go tab_ok [] ?_
    cases hp : p s[k]
    · simp only [go_sem, ↓reduceIte, reduceCtorEq, Nat.reduceBEq, Nat.reduceAdd, Nat.reduceMul, Nat.reduceSub, Nat.reduceLT, Nat.reduceLeDiff, Nat.reduceEqDiff]
      (refine hK _ _ ?_; (try clear hK); (try clear K))
      refine PW.cond_split (b := false) rfl ?_ ?_ <;> intro hb
      · cases hb
      exact PW.exit (hstop (by simp [Sub, eget]) rfl (rowN_eq hj (.inr ⟨s[k], by simp [hlt], hp⟩)))
    · simp only [go_sem, ↓reduceIte, reduceCtorEq, Nat.reduceBEq, Nat.reduceAdd, Nat.reduceMul, Nat.reduceSub, Nat.reduceLT, Nat.reduceLeDiff, Nat.reduceEqDiff]
      (refine hK _ _ ?_; (try clear hK); (try clear K))
      refine PW.cond_split (b := true) rfl ?_ ?_ <;> intro hb
      · refine PW.skip (hK2 _ _ ?_)
        have hw : IntKind.i64.wrap ((k : Int) + 1) = ((k + 1 : Nat) : Int) := by
          rw [show (k : Int) + 1 = ((k + 1 : Nat) : Int) from by omega]
          exact wrap_nat (by omega)
        refine PW.block ?_
        refine PW.goL tab_ok [] fun K hK => ?_
        simp only [go_sem, ↓reduceIte, reduceCtorEq, Nat.reduceBEq, Nat.reduceAdd, Nat.reduceMul, Nat.reduceSub, Nat.reduceLT, Nat.reduceLeDiff, Nat.reduceEqDiff]
        (refine hK _ _ ?_; (try clear hK); (try clear K))
        refine ⟨k + 1, ⟨by omega, ?_⟩, by omega, by simp [Sub, eget, hw], ⟨by simp, rfl, by simp⟩, rfl⟩
        intro j c hlj e
        rcases Nat.lt_or_ge j k with h | h
        · exact hj j c h e
        · have : j = k := by omega
          subst this
          rw [List.getElem?_eq_getElem hlt] at e
          injection e with e
          rw [← e]; exact hp
      · cases hb
  · have h1 : decide ((k : Int) < (s.length : Int)) = false := by simpa using hlt
    simp only [h1, go_sem, ↓reduceIte, reduceCtorEq, Nat.reduceBEq, Nat.reduceAdd, Nat.reduceMul, Nat.reduceSub, Nat.reduceLT, Nat.reduceLeDiff, Nat.reduceEqDiff]
    (refine hK _ _ ?_; (try clear hK); (try clear K))
    refine PW.cond_split (b := false) rfl ?_ ?_ <;> intro hb
    · cases hb
    exact PW.exit (hstop (by simp [Sub, eget]) rfl (rowN_eq hj (.inl ⟨by simp; omega, hk⟩)))
end Go.Proofs.YtolhbjfaahcekaaDoor
end
section
/- The lexer: blanks. -/
set_option linter.unusedVariables false
set_option linter.unusedSimpArgs false
namespace Go.Proofs.YtolhbjfaahcekaaDoor
open Go

def blankB (c : UInt8) : Bool := ((c.toNat : Int) == 9) || ((c.toNat : Int) == 10) || ((c.toNat : Int) == 13) || ((c.toNat : Int) == 32)
def sDash : Str := [45, 45]
/-- How many bytes of blanks stand at the begin. -/
def blankF : Nat → Str → Nat
  | 0, _ => 0
  | n + 1, s => match s with
    | [] => 0
    | c :: r => if blankB c then 1 + blankF n r
      else if ((c.toNat : Int) == 45) && prefB s sDash then rowN lineB s + blankF n (s.drop (rowN lineB s)) else 0
def blankN (s : Str) : Nat := blankF s.length s
theorem rowN_dash {s : Str} (h : prefB s sDash = true) : 2 ≤ rowN lineB s := by
  simp only [prefB, Bool.and_eq_true, decide_eq_true_eq, beq_iff_eq] at h
  obtain ⟨h1, h2⟩ := h
  match s, h1, h2 with
  | [], h1, h2 => simp [sDash] at h2
  | [a], h1, h2 => simp [sDash] at h2
  | a :: b :: s, h1, h2 =>
    simp [sDash] at h2
    obtain ⟨rfl, rfl⟩ := h2
    show 2 ≤ (List.takeWhile lineB (45 :: 45 :: s)).length
    rw [List.takeWhile_cons, if_pos (by decide), List.takeWhile_cons, if_pos (by decide)]
    simp
theorem blankF_le : ∀ (n : Nat) (s : Str), blankF n s ≤ s.length
  | 0, s => Nat.zero_le _
  | n + 1, s => by
    unfold blankF
    split
    · exact Nat.zero_le _
    · rename_i c r
      split
      · have := blankF_le n r
        simp
        omega
      · split
        · have h1 := blankF_le n ((c :: r).drop (rowN lineB (c :: r)))
          have h2 := rowN_le lineB (c :: r)
          simp only [List.length_drop] at h1
          omega
        · exact Nat.zero_le _
theorem blankN_le (s : Str) : blankN s ≤ s.length := blankF_le _ s

theorem blanks_pc {s : Str} (hl : s.length ≤ 1000000) : Pure Tryd.prog 9 [.str s] (.int .i64 (blankN s)) := by
  refine PC.intro tab_ok Tryd.func9 rfl (by kernel_rfl) Tryd.ntmps9 (Nat.le_of_ble_eq_true rfl) (rs := _) (congrArg Array.toList Tryd.results9) ?_
  refine PW.go tab_ok [] fun K hK => ?_
  simp only [go_sem, ↓reduceIte, reduceCtorEq, Nat.reduceBEq, Nat.reduceAdd, Nat.reduceMul, Nat.reduceSub, Nat.reduceLT, Nat.reduceLeDiff, Nat.reduceEqDiff]
  (refine hK _ _ ?_; (try clear hK); (try clear K))
  refine PW.scope ?_
  refine PW.go tab_ok [] fun K hK => ?_
  simp only [go_sem, ↓reduceIte, reduceCtorEq, Nat.reduceBEq, Nat.reduceAdd, Nat.reduceMul, Nat.reduceSub, Nat.reduceLT, Nat.reduceLeDiff, Nat.reduceEqDiff]
  (refine hK _ _ ?_; (try clear hK); (try clear K))
  refine PW.seq_k fun K1 hK1 => PW.label (hK1 _ _ ?_)
  clear hK1 K1
  refine PW.seq_k fun K0 hK0 => ?_
  refine PW.block (PW.loop (α := Nat × Nat) (fun a => [(3, .int .i64 (a.1 : Int)), (0, .str s)]) (fun _ => ⟨[], []⟩)
    (fun a => a.1 ≤ s.length ∧ s.length - a.1 ≤ a.2 ∧ a.1 + blankF a.2 (s.drop a.1) = blankN s) (fun a => a.2) (0, s.length) ⟨Nat.zero_le _, by simp, by simp [blankN]⟩ ?_ rfl (fun _ _ => ⟨rfl, rfl⟩) ?_)
  · simp [Sub, eget]
  rintro ⟨k, n⟩ ⟨hk, hn, he⟩
  simp only at hk hn he
  have hstop : ∀ {env : Env} {st : St}, Sub env [(3, .int .i64 (k : Int))] → st = ⟨[], []⟩ → blankF n (s.drop k) = 0 → K0 env st := by
    rintro env st hsub rfl hr
    refine hK0 _ _ (PW.less _ hsub ?_)
    refine PW.go tab_ok [] fun K hK => ?_
    simp only [go_sem, ↓reduceIte, reduceCtorEq, Nat.reduceBEq, Nat.reduceAdd, Nat.reduceMul, Nat.reduceSub, Nat.reduceLT, Nat.reduceLeDiff, Nat.reduceEqDiff]
    (refine hK _ _ ?_; (try clear hK); (try clear K))
    exact PW.ret (Pure.ret rfl (by rw [← he, hr]; rfl) rfl)
  have h0 : (0 : Int) ≤ (k : Int) := by omega
  have h0' : (k : Int) ≤ (s.length : Int) := by omega
  refine PW.seq_k fun K2 hK2 => ?_
  refine PW.go tab_ok [] fun K hK => ?_
  simp only [go_sem, ↓reduceIte, reduceCtorEq, Nat.reduceBEq, Nat.reduceAdd, Nat.reduceMul, Nat.reduceSub, Nat.reduceLT, Nat.reduceLeDiff, Nat.reduceEqDiff]
  (refine hK _ _ ?_; (try clear hK); (try clear K))
  refine PW.cond_split (b := decide ((k : Int) < (s.length : Int))) rfl ?_ ?_ <;> intro hb
  · have hlt : k < s.length := by simpa using hb
    obtain ⟨m, rfl⟩ : ∃ m, n = m + 1 := ⟨n - 1, by omega⟩
    have hget : s[((k : Int)).toNat]? = some s[k] := by simp [hlt]
    have hdr : s.drop k = s[k] :: s.drop (k + 1) := List.drop_eq_getElem_cons hlt
    refine PW.skip (hK2 _ _ ?_)
    clear hK2 K2
    refine PW.block ?_
    refine PW.seq_k fun K3 hK3 => ?_
    refine PW.go tab_ok [] fun K hK => ?_
    simp only [h0, hget, go_sem, ↓reduceIte, reduceCtorEq, Nat.reduceBEq, Nat.reduceAdd, Nat.reduceMul, Nat.reduceSub, Nat.reduceLT, Nat.reduceLeDiff, Nat.reduceEqDiff]
    (refine hK _ _ ?_; (try clear hK); (try clear K))
    generalize s[k] = c at hget hdr
    have hgo : ∀ (q : Nat), 0 < q → k + q ≤ s.length → q + blankF m ((s.drop k).drop q) = blankF (m + 1) (s.drop k) → (k + q) + blankF m (s.drop (k + q)) = blankN s := by
      intro q _ _ e
      rw [← he, ← e, List.drop_drop]
      omega
    refine PW.block ?_
    refine PW.seq_k fun K4 hK4 => ?_
    have hsw : ∀ {env : Env} {st : St}, Sub env [(11, .bool (blankB c)), (10, .int .u8 (c.toNat : Int)), (3, .int .i64 (k : Int)), (0, .str s)] → st = ⟨[], []⟩ → K4 env st := by
      rintro env st hsub rfl
      refine hK4 _ _ (PW.less _ hsub ?_)
      clear hK4 K4
      refine PW.cond_split (b := blankB c) rfl ?_ ?_ <;> intro hb
      · refine PW.go tab_ok [] fun K hK => ?_
        simp only [go_sem, ↓reduceIte, reduceCtorEq, Nat.reduceBEq, Nat.reduceAdd, Nat.reduceMul, Nat.reduceSub, Nat.reduceLT, Nat.reduceLeDiff, Nat.reduceEqDiff]
        (refine hK _ _ ?_; (try clear hK); (try clear K))
        refine PW.exit ?_
        have hw : IntKind.i64.wrap ((k : Int) + 1) = ((k + 1 : Nat) : Int) := by
          rw [show (k : Int) + 1 = ((k + 1 : Nat) : Int) from by omega]
          exact wrap_nat (by omega)
        refine ⟨(k + 1, m), ⟨by simp only; omega, by simp only; omega, ?_⟩, by simp, by simp [Sub, eget, hw], ⟨by simp, rfl, by simp⟩, rfl⟩
        refine hgo 1 (by omega) (by omega) ?_
        rw [hdr]
        simp [blankF, hb]
      · have hnb : ¬ blankB c = true := by simp [hb]
        refine PW.go tab_ok [] fun K hK => ?_
        simp only [go_sem, ↓reduceIte, reduceCtorEq, Nat.reduceBEq, Nat.reduceAdd, Nat.reduceMul, Nat.reduceSub, Nat.reduceLT, Nat.reduceLeDiff, Nat.reduceEqDiff]
        (refine hK _ _ ?_; (try clear hK); (try clear K))
        refine PW.cond_split (b := (c.toNat : Int) == 45) rfl ?_ ?_ <;> intro hb2
        · refine PW.go tab_ok [] fun K hK => ?_
          simp only [h0, h0', Int.toNat_natCast, go_sem, ↓reduceIte, reduceCtorEq, Nat.reduceBEq, Nat.reduceAdd, Nat.reduceMul, Nat.reduceSub, Nat.reduceLT, Nat.reduceLeDiff, Nat.reduceEqDiff]
          refine (hasPrefix_pc (s.drop k) sDash).use (Weaks.refl _) rfl rfl ?_
          refine PO.go tab_ok [] ?_
          simp only [go_sem, ↓reduceIte, reduceCtorEq, Nat.reduceBEq, Nat.reduceAdd, Nat.reduceMul, Nat.reduceSub, Nat.reduceLT, Nat.reduceLeDiff, Nat.reduceEqDiff]
          (refine hK _ _ ?_; (try clear hK); (try clear K))
          refine PW.cond_split (b := prefB (s.drop k) sDash) rfl ?_ ?_ <;> intro hb3
          · refine PW.go tab_ok [] fun K hK => ?_
            simp only [h0, h0', Int.toNat_natCast, go_sem, ↓reduceIte, reduceCtorEq, Nat.reduceBEq, Nat.reduceAdd, Nat.reduceMul, Nat.reduceSub, Nat.reduceLT, Nat.reduceLeDiff, Nat.reduceEqDiff]
            refine (lexrow_pc line_pc (s := s.drop k) (by simp; omega)).use (Weaks.refl _) rfl rfl ?_
            refine PO.go tab_ok [] ?_
            simp only [go_sem, ↓reduceIte, reduceCtorEq, Nat.reduceBEq, Nat.reduceAdd, Nat.reduceMul, Nat.reduceSub, Nat.reduceLT, Nat.reduceLeDiff, Nat.reduceEqDiff]
            (refine hK _ _ ?_; (try clear hK); (try clear K))
            refine PW.exit ?_
            have h2 := rowN_dash hb3
            have h3 := rowN_le lineB (s.drop k)
            simp only [List.length_drop] at h3
            have hw : IntKind.i64.wrap ((k : Int) + (rowN lineB (s.drop k) : Int)) = ((k + rowN lineB (s.drop k) : Nat) : Int) := by
              rw [show (k : Int) + (rowN lineB (s.drop k) : Int) = ((k + rowN lineB (s.drop k) : Nat) : Int) from by omega]
              exact wrap_nat (by omega)
            refine ⟨(k + rowN lineB (s.drop k), m), ⟨by simp only; omega, by simp only; omega, ?_⟩, by simp, by simp [Sub, eget, hw], ⟨by simp, rfl, by simp⟩, rfl⟩
            refine hgo _ (by omega) (by omega) ?_
            have : blankF (m + 1) (s.drop k) = rowN lineB (s.drop k) + blankF m ((s.drop k).drop (rowN lineB (s.drop k))) := by
              conv => lhs; rw [hdr]
              simp only [blankF, if_neg hnb]
              rw [← hdr, hb2, hb3]
              rfl
            rw [this]
          · refine PW.skip (hK3 _ _ (PW.exit (hstop (by simp [Sub, eget]) rfl ?_)))
            rw [hdr]
            simp only [blankF, if_neg hnb]
            rw [← hdr, hb3]
            simp
        · refine PW.skip (hK3 _ _ (PW.exit (hstop (by simp [Sub, eget]) rfl ?_)))
          rw [hdr]
          simp only [blankF, if_neg hnb, hb2]
          simp
    refine PW.go tab_ok [] fun K hK => ?_
    simp only [go_sem, ↓reduceIte, reduceCtorEq, Nat.reduceBEq, Nat.reduceAdd, Nat.reduceMul, Nat.reduceSub, Nat.reduceLT, Nat.reduceLeDiff, Nat.reduceEqDiff]
    (refine hK _ _ ?_; (try clear hK); (try clear K))
    refine PW.cond_split (b := (c.toNat : Int) == 9) rfl ?_ ?_ <;> intro hb1
    · exact PW.skip (hsw (by simp [Sub, eget, blankB, hb1]) rfl)
    refine PW.go tab_ok [] fun K hK => ?_
    simp only [go_sem, ↓reduceIte, reduceCtorEq, Nat.reduceBEq, Nat.reduceAdd, Nat.reduceMul, Nat.reduceSub, Nat.reduceLT, Nat.reduceLeDiff, Nat.reduceEqDiff]
    (refine hK _ _ ?_; (try clear hK); (try clear K))
    refine PW.cond_split (b := (c.toNat : Int) == 10) rfl ?_ ?_ <;> intro hb2
    · exact PW.skip (hsw (by simp [Sub, eget, blankB, hb1, hb2]) rfl)
    refine PW.go tab_ok [] fun K hK => ?_
    simp only [go_sem, ↓reduceIte, reduceCtorEq, Nat.reduceBEq, Nat.reduceAdd, Nat.reduceMul, Nat.reduceSub, Nat.reduceLT, Nat.reduceLeDiff, Nat.reduceEqDiff]
    (refine hK _ _ ?_; (try clear hK); (try clear K))
    refine PW.cond_split (b := (c.toNat : Int) == 13) rfl ?_ ?_ <;> intro hb3
    · exact PW.skip (hsw (by simp [Sub, eget, blankB, hb1, hb2, hb3]) rfl)
    refine PW.goL tab_ok [] fun K hK => ?_
    simp only [go_sem, ↓reduceIte, reduceCtorEq, Nat.reduceBEq, Nat.reduceAdd, Nat.reduceMul, Nat.reduceSub, Nat.reduceLT, Nat.reduceLeDiff, Nat.reduceEqDiff]
    (refine hK _ _ ?_; (try clear hK); (try clear K))
    exact hsw (by simp [Sub, eget, blankB, hb1, hb2, hb3]) rfl
  · have hge : ¬ k < s.length := by simpa using hb
    have hnil : s.drop k = [] := List.drop_eq_nil_of_le (by omega)
    refine PW.exit (hstop (by simp [Sub, eget]) rfl ?_)
    rw [hnil]
    cases n <;> rfl
end Go.Proofs.YtolhbjfaahcekaaDoor
end
section
/- The lexer: numbers. -/
set_option linter.unusedVariables false
set_option linter.unusedSimpArgs false
namespace Go.Proofs.YtolhbjfaahcekaaDoor
open Go

def dgI (c : UInt8) : Int := IntKind.i64.wrap (IntKind.u8.wrap ((c.toNat : Int) - 48))
def numBad (n : Int) (c : UInt8) : Bool := decide (n > 922337203685477580) || ((n == 922337203685477580) && decide (dgI c > 7))
def numStep (n : Int) (c : UInt8) : Int := IntKind.i64.wrap (IntKind.i64.wrap (10 * n) + dgI c)
def numF : Int → Str → Int × Int
  | n, [] => (n, 0)
  | n, c :: r => if numBad n c then (0, 7) else numF (numStep n c) r
theorem number_pc {s : Str} (hl : s.length ≤ 1000000) : Pure Tryd.prog 33 [.str s] (.tup [.int .i64 (numF 0 s).1, .int .i64 (numF 0 s).2]) := by
  refine PC.intro tab_ok Tryd.func33 rfl (by kernel_rfl) Tryd.ntmps33 (Nat.le_of_ble_eq_true rfl) (rs := _) (congrArg Array.toList Tryd.results33) ?_
  refine PW.go tab_ok [] fun K hK => ?_
  simp only [go_sem, ↓reduceIte, reduceCtorEq, Nat.reduceBEq, Nat.reduceAdd, Nat.reduceMul, Nat.reduceSub, Nat.reduceLT, Nat.reduceLeDiff, Nat.reduceEqDiff]
  (refine hK _ _ ?_; (try clear hK); (try clear K))
  refine PW.go tab_ok [] fun K hK => ?_
  simp only [go_sem, ↓reduceIte, reduceCtorEq, Nat.reduceBEq, Nat.reduceAdd, Nat.reduceMul, Nat.reduceSub, Nat.reduceLT, Nat.reduceLeDiff, Nat.reduceEqDiff]
  (refine hK _ _ ?_; (try clear hK); (try clear K))
  refine PW.seq_k fun K0 hK0 => ?_
  refine PW.go tab_ok [] fun K hK => ?_
  simp only [go_sem, ↓reduceIte, reduceCtorEq, Nat.reduceBEq, Nat.reduceAdd, Nat.reduceMul, Nat.reduceSub, Nat.reduceLT, Nat.reduceLeDiff, Nat.reduceEqDiff]
  (refine hK _ _ ?_; (try clear hK); (try clear K))
  refine PW.block (PW.loop (α := Nat × Int) (fun a => [(9, .int .i64 (a.1 : Int)), (8, .int .i64 (s.length : Int)), (4, .int .i64 a.2), (0, .str s)]) (fun _ => ⟨[], []⟩)
    (fun a => a.1 ≤ s.length ∧ numF a.2 (s.drop a.1) = numF 0 s) (fun a => s.length - a.1) (0, 0) ⟨Nat.zero_le _, rfl⟩ ?_ rfl (fun _ _ => ⟨rfl, rfl⟩) ?_)
  · simp [Sub, eget]
  rintro ⟨k, n⟩ ⟨hk, he⟩
  simp only at hk he
  refine PW.go tab_ok [] fun K hK => ?_
  simp only [go_sem, ↓reduceIte, reduceCtorEq, Nat.reduceBEq, Nat.reduceAdd, Nat.reduceMul, Nat.reduceSub, Nat.reduceLT, Nat.reduceLeDiff, Nat.reduceEqDiff]
  (refine hK _ _ ?_; (try clear hK); (try clear K))
  refine PW.seq_k fun K2 hK2 => ?_
  refine PW.cond_split (b := decide ((k : Int) < (s.length : Int))) rfl ?_ ?_ <;> intro hb
  · have hlt : k < s.length := by simpa using hb
    have h0 : (0 : Int) ≤ (k : Int) := by omega
    have hget : s[((k : Int)).toNat]? = some s[k] := by simp [hlt]
    have hdr : s.drop k = s[k] :: s.drop (k + 1) := List.drop_eq_getElem_cons hlt
    refine PW.skip (hK2 _ _ ?_)
    clear hK2 K2
    refine PW.seq_k fun K3 hK3 => PW.block ?_
    generalize s[k] = c at hget hdr
    rw [hdr] at he
    refine PW.go tab_ok [] fun K hK => ?_
    simp only [go_sem, ↓reduceIte, reduceCtorEq, Nat.reduceBEq, Nat.reduceAdd, Nat.reduceMul, Nat.reduceSub, Nat.reduceLT, Nat.reduceLeDiff, Nat.reduceEqDiff]
    (refine hK _ _ ?_; (try clear hK); (try clear K))
    refine PW.go tab_ok [] fun K hK => ?_
    simp only [h0, hget, go_sem, ↓reduceIte, reduceCtorEq, Nat.reduceBEq, Nat.reduceAdd, Nat.reduceMul, Nat.reduceSub, Nat.reduceLT, Nat.reduceLeDiff, Nat.reduceEqDiff]
    (refine hK _ _ ?_; (try clear hK); (try clear K))
    have hd' : IntKind.i64.wrap (IntKind.u8.wrap ((c.toNat : Int) - 48)) = dgI c := rfl
    refine PW.seq_k fun K4 hK4 => ?_
    have hbad : numBad n c = true → numF 0 s = (0, 7) := by
      intro hbd
      rw [← he]
      simp [numF, hbd]
    have hgood : ∀ {env : Env} {st : St}, Sub env [(9, .int .i64 (k : Int)), (8, .int .i64 (s.length : Int)), (6, .int .i64 (dgI c)), (4, .int .i64 n), (0, .str s)] → st = ⟨[], []⟩ → numBad n c = false → K4 env st := by
      rintro env st hsub rfl hbd
      refine hK4 _ _ (PW.less _ hsub ?_)
      refine PW.goL tab_ok [] fun K hK => ?_
      simp only [go_sem, ↓reduceIte, reduceCtorEq, Nat.reduceBEq, Nat.reduceAdd, Nat.reduceMul, Nat.reduceSub, Nat.reduceLT, Nat.reduceLeDiff, Nat.reduceEqDiff]
      (refine hK _ _ ?_; (try clear hK); (try clear K))
      refine hK3 _ _ ?_
      refine PW.goL tab_ok [] fun K hK => ?_
      simp only [go_sem, ↓reduceIte, reduceCtorEq, Nat.reduceBEq, Nat.reduceAdd, Nat.reduceMul, Nat.reduceSub, Nat.reduceLT, Nat.reduceLeDiff, Nat.reduceEqDiff]
      (refine hK _ _ ?_; (try clear hK); (try clear K))
      have hw : IntKind.i64.wrap ((k : Int) + 1) = ((k + 1 : Nat) : Int) := by
        rw [show (k : Int) + 1 = ((k + 1 : Nat) : Int) from by omega]
        exact wrap_nat (by omega)
      refine ⟨(k + 1, numStep n c), ⟨by simp only; omega, ?_⟩, by simp only; omega, by simp [Sub, eget, hw, numStep], ⟨by simp, rfl, by simp⟩, rfl⟩
      rw [← he]
      simp [numF, hbd]
    refine PW.go tab_ok [] fun K hK => ?_
    cases h1 : decide (n > 922337203685477580)
    · cases h2 : n == 922337203685477580
      · simp only [h1, h2, hd', go_sem, ↓reduceIte, reduceCtorEq, Nat.reduceBEq, Nat.reduceAdd, Nat.reduceMul, Nat.reduceSub, Nat.reduceLT, Nat.reduceLeDiff, Nat.reduceEqDiff]
        (refine hK _ _ ?_; (try clear hK); (try clear K))
        refine PW.cond_split (b := false) rfl ?_ ?_ <;> intro hb
        · cases hb
        exact PW.skip (hgood (by simp [Sub, eget]) rfl (by simp only [numBad, h1, h2]; rfl))
      · cases h3 : decide (dgI c > 7)
        · simp only [h1, h2, h3, hd', go_sem, ↓reduceIte, reduceCtorEq, Nat.reduceBEq, Nat.reduceAdd, Nat.reduceMul, Nat.reduceSub, Nat.reduceLT, Nat.reduceLeDiff, Nat.reduceEqDiff]
          (refine hK _ _ ?_; (try clear hK); (try clear K))
          refine PW.cond_split (b := false) rfl ?_ ?_ <;> intro hb
          · cases hb
          exact PW.skip (hgood (by simp [Sub, eget]) rfl (by simp only [numBad, h1, h2, h3]; rfl))
        · simp only [h1, h2, h3, hd', go_sem, ↓reduceIte, reduceCtorEq, Nat.reduceBEq, Nat.reduceAdd, Nat.reduceMul, Nat.reduceSub, Nat.reduceLT, Nat.reduceLeDiff, Nat.reduceEqDiff]
          (refine hK _ _ ?_; (try clear hK); (try clear K))
          refine PW.cond_split (b := true) rfl ?_ ?_ <;> intro hb
          · refine PW.go tab_ok [] fun K hK => ?_
            simp only [go_sem, ↓reduceIte, reduceCtorEq, Nat.reduceBEq, Nat.reduceAdd, Nat.reduceMul, Nat.reduceSub, Nat.reduceLT, Nat.reduceLeDiff, Nat.reduceEqDiff]
            (refine hK _ _ ?_; (try clear hK); (try clear K))
            exact PW.ret (Pure.ret rfl (by rw [hbad (by simp only [numBad, h1, h2, h3]; rfl)]; rfl) rfl)
          · cases hb
    · simp only [h1, hd', go_sem, ↓reduceIte, reduceCtorEq, Nat.reduceBEq, Nat.reduceAdd, Nat.reduceMul, Nat.reduceSub, Nat.reduceLT, Nat.reduceLeDiff, Nat.reduceEqDiff]
      (refine hK _ _ ?_; (try clear hK); (try clear K))
      refine PW.cond_split (b := true) rfl ?_ ?_ <;> intro hb
      · refine PW.go tab_ok [] fun K hK => ?_
        simp only [go_sem, ↓reduceIte, reduceCtorEq, Nat.reduceBEq, Nat.reduceAdd, Nat.reduceMul, Nat.reduceSub, Nat.reduceLT, Nat.reduceLeDiff, Nat.reduceEqDiff]
        (refine hK _ _ ?_; (try clear hK); (try clear K))
        exact PW.ret (Pure.ret rfl (by rw [hbad (by simp only [numBad, h1]; rfl)]; rfl) rfl)
      · cases hb
  · have hge : ¬ k < s.length := by simpa using hb
    have hnil : s.drop k = [] := List.drop_eq_nil_of_le (by omega)
    rw [hnil] at he
    refine PW.exit (hK0 _ _ ?_)
    refine PW.go tab_ok [] fun K hK => ?_
    simp only [go_sem, ↓reduceIte, reduceCtorEq, Nat.reduceBEq, Nat.reduceAdd, Nat.reduceMul, Nat.reduceSub, Nat.reduceLT, Nat.reduceLeDiff, Nat.reduceEqDiff]
    (refine hK _ _ ?_; (try clear hK); (try clear K))
    exact PW.ret (Pure.ret rfl (by rw [← he]; rfl) rfl)
end Go.Proofs.YtolhbjfaahcekaaDoor
end
section
/- The lexer: names, words, numbers. -/
set_option linter.unusedVariables false
set_option linter.unusedSimpArgs false
namespace Go.Proofs.YtolhbjfaahcekaaDoor
open Go

def wordsL : List Str := [[65, 78, 68], [66, 89], [67, 79, 85, 78, 84], [67, 82, 69, 65, 84, 69], [68, 69, 76, 69, 84, 69], [68, 69, 83, 67], [68, 82, 79, 80], [70, 82, 79, 77], [71, 82, 79, 85, 80], [73, 78, 83, 69, 82, 84], [73, 78, 84], [73, 78, 84, 79], [73, 83], [74, 79, 73, 78], [75, 69, 89], [76, 73, 77, 73, 84], [77, 65, 88], [77, 73, 78], [78, 79, 84], [78, 85, 76, 76], [79, 78], [79, 82], [79, 82, 68, 69, 82], [80, 82, 73, 77, 65, 82, 89], [83, 69, 76, 69, 67, 84], [83, 69, 84], [83, 85, 77], [84, 65, 66, 76, 69], [84, 69, 88, 84], [85, 78, 73, 81, 85, 69], [85, 80, 68, 65, 84, 69], [86, 65, 76, 85, 69, 83], [87, 72, 69, 82, 69]]
def signsL : List Str := [[60, 62], [60, 61], [62, 61], [40], [41], [44], [59], [46], [42], [43], [45], [47], [37], [61], [60], [62]]
theorem words_pc : Pure Tryd.prog 32 [] (.list 1 (strs wordsL) .no) := by
  refine PC.intro tab_ok Tryd.func32 rfl (by kernel_rfl) Tryd.ntmps32 (Nat.le_of_ble_eq_true rfl) (rs := _) (congrArg Array.toList Tryd.results32) ?_
  refine PW.go tab_ok [] fun K hK => ?_
  simp only [go_sem, ↓reduceIte, reduceCtorEq, Nat.reduceBEq, Nat.reduceAdd, Nat.reduceMul, Nat.reduceSub, Nat.reduceLT, Nat.reduceLeDiff, Nat.reduceEqDiff]
  (refine hK _ _ ?_; (try clear hK); (try clear K))
  refine PW.go tab_ok [] fun K hK => ?_
  simp only [go_sem, ↓reduceIte, reduceCtorEq, Nat.reduceBEq, Nat.reduceAdd, Nat.reduceMul, Nat.reduceSub, Nat.reduceLT, Nat.reduceLeDiff, Nat.reduceEqDiff]
  (refine hK _ _ ?_; (try clear hK); (try clear K))
  exact PW.ret (Pure.ret rfl rfl rfl)
theorem signs_pc : Pure Tryd.prog 21 [] (.list 1 (strs signsL) .no) := by
  refine PC.intro tab_ok Tryd.func21 rfl (by kernel_rfl) Tryd.ntmps21 (Nat.le_of_ble_eq_true rfl) (rs := _) (congrArg Array.toList Tryd.results21) ?_
  refine PW.go tab_ok [] fun K hK => ?_
  simp only [go_sem, ↓reduceIte, reduceCtorEq, Nat.reduceBEq, Nat.reduceAdd, Nat.reduceMul, Nat.reduceSub, Nat.reduceLT, Nat.reduceLeDiff, Nat.reduceEqDiff]
  (refine hK _ _ ?_; (try clear hK); (try clear K))
  refine PW.go tab_ok [] fun K hK => ?_
  simp only [go_sem, ↓reduceIte, reduceCtorEq, Nat.reduceBEq, Nat.reduceAdd, Nat.reduceMul, Nat.reduceSub, Nat.reduceLT, Nat.reduceLeDiff, Nat.reduceEqDiff]
  (refine hK _ _ ?_; (try clear hK); (try clear K))
  exact PW.ret (Pure.ret rfl rfl rfl)
def glued (s : Str) (n : Nat) : Bool := match s[n]? with
  | some c => smallB c || greatB c
  | none => false
/-- A name, a word or a number of so many bytes. -/
def plainM (s : Str) (n : Nat) : Tok × Int :=
  if glued s n then (⟨0, s.take n, 0, 0⟩, 4)
  else match s with
    | [] => (tok0, 0)
    | c :: _ => if greatB c then (⟨2, s.take n, 0, 0⟩, if 0 ≤ idxF wordsL (s.take n) then 0 else 4)
      else if firstB c then (⟨1, s.take n, 0, 0⟩, if (n : Int) > 16 then 2 else 0)
      else (⟨3, [], (numF 0 (s.take n)).1, 0⟩, (numF 0 (s.take n)).2)
theorem plain_pc {c : UInt8} {r : Str} {n : Nat} (hn : n ≤ (c :: r).length) (hl : (c :: r).length ≤ 1000000) :
    Pure Tryd.prog 22 [.str (c :: r), .int .i64 (n : Int)] (.tup [tokPV (plainM (c :: r) n).1, .int .i64 (plainM (c :: r) n).2]) := by
  have h0 : (0 : Int) ≤ (n : Int) := by omega
  have h0' : (n : Int) ≤ ((c :: r).length : Int) := by omega
  generalize hs : c :: r = s at hn hl h0'
  refine PC.intro tab_ok Tryd.func22 rfl (by kernel_rfl) Tryd.ntmps22 (Nat.le_of_ble_eq_true rfl) (rs := _) (congrArg Array.toList Tryd.results22) ?_
  refine PW.go tab_ok [] fun K hK => ?_
  simp only [go_sem, ↓reduceIte, reduceCtorEq, Nat.reduceBEq, Nat.reduceAdd, Nat.reduceMul, Nat.reduceSub, Nat.reduceLT, Nat.reduceLeDiff, Nat.reduceEqDiff]
  (refine hK _ _ ?_; (try clear hK); (try clear K))
  refine PW.go tab_ok [] fun K hK => ?_
  simp only [h0, h0', Int.toNat_natCast, go_sem, ↓reduceIte, reduceCtorEq, Nat.reduceBEq, Nat.reduceAdd, Nat.reduceMul, Nat.reduceSub, Nat.reduceLT, Nat.reduceLeDiff, Nat.reduceEqDiff]
  (refine hK _ _ ?_; (try clear hK); (try clear K))
  refine PW.seq_k fun K0 hK0 => ?_
  have hgood : ∀ {env : Env} {st : St}, Sub env [(4, .ref 0 0), (5, .int .i64 0), (0, .str s), (1, .int .i64 (n : Int))] → st = ⟨[[.int .i64 0, .str (s.take n), .int .i64 0, .int .i64 0]], []⟩ → glued s n = false → K0 env st := by
    rintro env st hsub rfl hg
    refine hK0 _ _ (PW.less _ hsub ?_)
    clear hK0 K0
    refine PW.seq_k fun K1 hK1 => ?_
    have hend : ∀ {env : Env} {st : St} (t : Tok) (e : Int), Sub env [(4, .ref 0 0), (5, .int .i64 e)] → st = ⟨[[.int .i64 t.kind, .str t.text, .int .i64 t.num, .int .i64 t.at_]], []⟩ → plainM s n = (t, e) → K1 env st := by
      rintro env st t e hsub rfl hp
      refine hK1 _ _ (PW.less _ hsub ?_)
      refine PW.go tab_ok [] fun K hK => ?_
      simp only [go_sem, ↓reduceIte, reduceCtorEq, Nat.reduceBEq, Nat.reduceAdd, Nat.reduceMul, Nat.reduceSub, Nat.reduceLT, Nat.reduceLeDiff, Nat.reduceEqDiff]
      (refine hK _ _ ?_; (try clear hK); (try clear K))
      exact PW.ret (Pure.ret rfl (by rw [hp]; rfl) rfl)
    have hget0 : s[0]? = some c := by rw [← hs]; rfl
    have hpm : plainM s n = if greatB c then (⟨2, s.take n, 0, 0⟩, if 0 ≤ idxF wordsL (s.take n) then 0 else 4)
      else if firstB c then (⟨1, s.take n, 0, 0⟩, if (n : Int) > 16 then 2 else 0)
      else (⟨3, [], (numF 0 (s.take n)).1, 0⟩, (numF 0 (s.take n)).2) := by
      subst hs
      simp only [plainM, hg]
      rfl
    refine PW.block ?_
    refine PW.go tab_ok [] fun K hK => ?_
    simp only [hget0, Int.le_refl, go_sem, ↓reduceIte, reduceCtorEq, Nat.reduceBEq, Nat.reduceAdd, Nat.reduceMul, Nat.reduceSub, Nat.reduceLT, Nat.reduceLeDiff, Nat.reduceEqDiff]
    refine (great_pc c).use (Weaks.refl _) rfl rfl ?_
    refine PO.go tab_ok [] ?_
    simp only [go_sem, ↓reduceIte, reduceCtorEq, Nat.reduceBEq, Nat.reduceAdd, Nat.reduceMul, Nat.reduceSub, Nat.reduceLT, Nat.reduceLeDiff, Nat.reduceEqDiff]
    (refine hK _ _ ?_; (try clear hK); (try clear K))
    refine PW.cond_split (b := greatB c) rfl ?_ ?_ <;> intro hb1
    · refine PW.go tab_ok [] fun K hK => ?_
      simp only [go_sem, ↓reduceIte, reduceCtorEq, Nat.reduceBEq, Nat.reduceAdd, Nat.reduceMul, Nat.reduceSub, Nat.reduceLT, Nat.reduceLeDiff, Nat.reduceEqDiff]
      (refine hK _ _ ?_; (try clear hK); (try clear K))
      refine PW.draws tab_ok mixed [] [(1, []), (2, []), (0, [2]), (3, []), (4, [])] (by kernel_rfl) fun K hK => ?_
      simp only [go_sem, ↓reduceIte, reduceCtorEq, Nat.reduceBEq, Nat.reduceAdd, Nat.reduceMul, Nat.reduceSub, Nat.reduceLT, Nat.reduceLeDiff, Nat.reduceEqDiff]
      refine words_pc.use (Weaks.refl _) rfl rfl ?_
      refine ⟨?_, GO.go tab_ok ?_⟩
      · simp only [go_sem, ↓reduceIte, reduceCtorEq, Nat.reduceBEq, Nat.reduceAdd, Nat.reduceMul, Nat.reduceSub, Nat.reduceLT, Nat.reduceLeDiff, Nat.reduceEqDiff]
      simp only [go_sem, ↓reduceIte, reduceCtorEq, Nat.reduceBEq, Nat.reduceAdd, Nat.reduceMul, Nat.reduceSub, Nat.reduceLT, Nat.reduceLeDiff, Nat.reduceEqDiff]
      refine (contains_pc wordsL (s.take n) (by decide)).use (Weaks.refl _) rfl rfl ?_
      refine GO.go tab_ok ?_
      simp only [go_sem, ↓reduceIte, reduceCtorEq, Nat.reduceBEq, Nat.reduceAdd, Nat.reduceMul, Nat.reduceSub, Nat.reduceLT, Nat.reduceLeDiff, Nat.reduceEqDiff]
      (refine hK _ _ ?_; (try clear hK); (try clear K))
      refine PW.cond_split (b := !decide (idxF wordsL (s.take n) ≥ 0)) rfl ?_ ?_ <;> intro hb2
      · have h2 : ¬ 0 ≤ idxF wordsL (s.take n) := by simpa using hb2
        refine PW.goL tab_ok [] fun K hK => ?_
        simp only [go_sem, ↓reduceIte, reduceCtorEq, Nat.reduceBEq, Nat.reduceAdd, Nat.reduceMul, Nat.reduceSub, Nat.reduceLT, Nat.reduceLeDiff, Nat.reduceEqDiff]
        (refine hK _ _ ?_; (try clear hK); (try clear K))
        exact hend ⟨2, s.take n, 0, 0⟩ 4 (by simp [Sub, eget]) rfl (by rw [hpm, hb1, if_neg h2]; rfl)
      · have h2 : 0 ≤ idxF wordsL (s.take n) := by simpa using hb2
        exact PW.skip (hend ⟨2, s.take n, 0, 0⟩ 0 (by simp [Sub, eget]) rfl (by rw [hpm, hb1, if_pos h2]; rfl))
    refine PW.go tab_ok [] fun K hK => ?_
    simp only [hget0, Int.le_refl, go_sem, ↓reduceIte, reduceCtorEq, Nat.reduceBEq, Nat.reduceAdd, Nat.reduceMul, Nat.reduceSub, Nat.reduceLT, Nat.reduceLeDiff, Nat.reduceEqDiff]
    refine (first_pc c).use (Weaks.refl _) rfl rfl ?_
    refine PO.go tab_ok [] ?_
    simp only [go_sem, ↓reduceIte, reduceCtorEq, Nat.reduceBEq, Nat.reduceAdd, Nat.reduceMul, Nat.reduceSub, Nat.reduceLT, Nat.reduceLeDiff, Nat.reduceEqDiff]
    (refine hK _ _ ?_; (try clear hK); (try clear K))
    refine PW.cond_split (b := firstB c) rfl ?_ ?_ <;> intro hb2
    · refine PW.go tab_ok [] fun K hK => ?_
      simp only [go_sem, ↓reduceIte, reduceCtorEq, Nat.reduceBEq, Nat.reduceAdd, Nat.reduceMul, Nat.reduceSub, Nat.reduceLT, Nat.reduceLeDiff, Nat.reduceEqDiff]
      (refine hK _ _ ?_; (try clear hK); (try clear K))
      refine PW.go tab_ok [] fun K hK => ?_
      simp only [go_sem, ↓reduceIte, reduceCtorEq, Nat.reduceBEq, Nat.reduceAdd, Nat.reduceMul, Nat.reduceSub, Nat.reduceLT, Nat.reduceLeDiff, Nat.reduceEqDiff]
      (refine hK _ _ ?_; (try clear hK); (try clear K))
      refine PW.cond_split (b := decide ((n : Int) > 16)) rfl ?_ ?_ <;> intro hb3
      · have h3 : (n : Int) > 16 := by simpa using hb3
        refine PW.goL tab_ok [] fun K hK => ?_
        simp only [go_sem, ↓reduceIte, reduceCtorEq, Nat.reduceBEq, Nat.reduceAdd, Nat.reduceMul, Nat.reduceSub, Nat.reduceLT, Nat.reduceLeDiff, Nat.reduceEqDiff]
        (refine hK _ _ ?_; (try clear hK); (try clear K))
        exact hend ⟨1, s.take n, 0, 0⟩ 2 (by simp [Sub, eget]) rfl (by rw [hpm, hb1, hb2, if_pos h3]; rfl)
      · have h3 : ¬ (n : Int) > 16 := by simpa using hb3
        exact PW.skip (hend ⟨1, s.take n, 0, 0⟩ 0 (by simp [Sub, eget]) rfl (by rw [hpm, hb1, hb2, if_neg h3]; rfl))
    refine PW.go tab_ok [] fun K hK => ?_
    simp only [go_sem, ↓reduceIte, reduceCtorEq, Nat.reduceBEq, Nat.reduceAdd, Nat.reduceMul, Nat.reduceSub, Nat.reduceLT, Nat.reduceLeDiff, Nat.reduceEqDiff]
    (refine hK _ _ ?_; (try clear hK); (try clear K))
    refine PW.goL tab_ok [] fun K hK => ?_
    simp only [h0, h0', Int.toNat_natCast, go_sem, ↓reduceIte, reduceCtorEq, Nat.reduceBEq, Nat.reduceAdd, Nat.reduceMul, Nat.reduceSub, Nat.reduceLT, Nat.reduceLeDiff, Nat.reduceEqDiff]
    refine (number_pc (s := s.take n) (by simp; omega)).use (Weaks.refl _) rfl rfl ?_
    refine PO.go tab_ok [] ?_
    simp only [go_sem, ↓reduceIte, reduceCtorEq, Nat.reduceBEq, Nat.reduceAdd, Nat.reduceMul, Nat.reduceSub, Nat.reduceLT, Nat.reduceLeDiff, Nat.reduceEqDiff]
    (refine hK _ _ ?_; (try clear hK); (try clear K))
    exact hend ⟨3, [], (numF 0 (s.take n)).1, 0⟩ (numF 0 (s.take n)).2 (by simp [Sub, eget]) rfl (by rw [hpm, hb1, hb2]; rfl)
  refine PW.go tab_ok [] fun K hK => ?_
  have hbad : glued s n = true → plainM s n = (⟨0, s.take n, 0, 0⟩, 4) := by
    intro hg
    simp only [plainM, hg, if_true]
  by_cases hlt : n < s.length
  · have h1 : decide ((n : Int) < (s.length : Int)) = true := by simpa using hlt
    have hget : s[((n : Int)).toNat]? = some s[n] := by simp [hlt]
    have hgl' : glued s n = (smallB s[n] || greatB s[n]) := by simp [glued, hlt]
    simp only [h0, h1, hget, go_sem, ↓reduceIte, reduceCtorEq, Nat.reduceBEq, Nat.reduceAdd, Nat.reduceMul, Nat.reduceSub, Nat.reduceLT, Nat.reduceLeDiff, Nat.reduceEqDiff]
    refine (small_pc s[n]).use (Weaks.refl _) rfl rfl ?_
    refine PO.go tab_ok [] ?_
    cases h2 : smallB s[n]
    · simp only [h0, hget, go_sem, ↓reduceIte, reduceCtorEq, Nat.reduceBEq, Nat.reduceAdd, Nat.reduceMul, Nat.reduceSub, Nat.reduceLT, Nat.reduceLeDiff, Nat.reduceEqDiff]
      refine (great_pc s[n]).use (Weaks.refl _) rfl rfl ?_
      refine PO.go tab_ok [] ?_
      simp only [go_sem, ↓reduceIte, reduceCtorEq, Nat.reduceBEq, Nat.reduceAdd, Nat.reduceMul, Nat.reduceSub, Nat.reduceLT, Nat.reduceLeDiff, Nat.reduceEqDiff]
      (refine hK _ _ ?_; (try clear hK); (try clear K))
      refine PW.cond_split (b := greatB s[n]) rfl ?_ ?_ <;> intro hb
      · refine PW.go tab_ok [] fun K hK => ?_
        simp only [go_sem, ↓reduceIte, reduceCtorEq, Nat.reduceBEq, Nat.reduceAdd, Nat.reduceMul, Nat.reduceSub, Nat.reduceLT, Nat.reduceLeDiff, Nat.reduceEqDiff]
        (refine hK _ _ ?_; (try clear hK); (try clear K))
        exact PW.ret (Pure.ret rfl (by rw [hbad (by rw [hgl', hb]; simp)]; rfl) rfl)
      · exact PW.skip (hgood (by simp [Sub, eget]) rfl (by rw [hgl', h2, hb]; rfl))
    · simp only [go_sem, ↓reduceIte, reduceCtorEq, Nat.reduceBEq, Nat.reduceAdd, Nat.reduceMul, Nat.reduceSub, Nat.reduceLT, Nat.reduceLeDiff, Nat.reduceEqDiff]
      (refine hK _ _ ?_; (try clear hK); (try clear K))
      refine PW.cond_split (b := true) rfl ?_ ?_ <;> intro hb
      · refine PW.go tab_ok [] fun K hK => ?_
        simp only [go_sem, ↓reduceIte, reduceCtorEq, Nat.reduceBEq, Nat.reduceAdd, Nat.reduceMul, Nat.reduceSub, Nat.reduceLT, Nat.reduceLeDiff, Nat.reduceEqDiff]
        (refine hK _ _ ?_; (try clear hK); (try clear K))
        exact PW.ret (Pure.ret rfl (by rw [hbad (by rw [hgl', h2]; simp)]; rfl) rfl)
      · cases hb
  · have h1 : decide ((n : Int) < (s.length : Int)) = false := by simpa using hlt
    simp only [h1, go_sem, ↓reduceIte, reduceCtorEq, Nat.reduceBEq, Nat.reduceAdd, Nat.reduceMul, Nat.reduceSub, Nat.reduceLT, Nat.reduceLeDiff, Nat.reduceEqDiff]
    (refine hK _ _ ?_; (try clear hK); (try clear K))
    refine PW.cond_split (b := false) rfl ?_ ?_ <;> intro hb
    · cases hb
    have h9 : s[n]? = none := List.getElem?_eq_none (by omega)
    exact PW.skip (hgood (by simp [Sub, eget]) rfl (by simp only [glued, h9]))
end Go.Proofs.YtolhbjfaahcekaaDoor
end
section
/- Entries of the model's own: NoEscape, IndexByteString. -/
set_option linter.unusedVariables false
set_option linter.unusedSimpArgs false
namespace Go.Proofs.YtolhbjfaahcekaaDoor
open Go

theorem indexByteString_pc (s : Str) (c : UInt8) : Pure Tryd.prog 51 [.str s, bPV c] (.int .i64 (Lib.indexByte s c)) := by
  intro G w vs hi hv
  cases hv with
  | cons _ _ _ _ h1 h2 =>
  cases h2 with
  | cons _ _ _ _ h2 h3 =>
  cases h3
  cases h1
  cases h2
  refine .inr ⟨.int .i64 (Lib.indexByte s c), w, ?_, G, _, _, .refl G, hi, .int _ _, ⟨rfl, rfl⟩, Nat.le_refl _⟩
  rw [run_callFunc_extern Tryd.func51 (by kernel_rfl) (by kernel_rfl) (by kernel_rfl) (e := Extern.BytealgIndexByte.indexByte) (by kernel_rfl), Lib.run_indexByteString]
  simp
theorem noEscape_pc {x : PV} {st : St} : PC Tryd.prog 52 [x] st fun r st' => r = x ∧ st' = st := by
  intro G w vs hi hv
  cases hv with
  | cons _ v _ _ h1 h2 =>
  cases h2
  refine .inr ⟨v, w, ?_, G, _, _, .refl G, hi, h1, ⟨rfl, rfl⟩, Nat.le_refl _⟩
  rw [run_callFunc_extern Tryd.func52 (by kernel_rfl) (by kernel_rfl) (by kernel_rfl) (e := Extern.AbiNoEscape.same) (by kernel_rfl)]
  rfl
theorem liteIndexByte_pc (s : Str) (c : UInt8) : Pure Tryd.prog 39 [.str s, bPV c] (.int .i64 (Lib.indexByte s c)) := by
  refine PC.intro tab_ok Tryd.func39 rfl (by kernel_rfl) Tryd.ntmps39 (Nat.le_of_ble_eq_true rfl) (rs := _) (congrArg Array.toList Tryd.results39) ?_
  refine PW.go tab_ok [] fun K hK => ?_
  simp only [go_sem, ↓reduceIte, reduceCtorEq, Nat.reduceBEq, Nat.reduceAdd, Nat.reduceMul, Nat.reduceSub, Nat.reduceLT, Nat.reduceLeDiff, Nat.reduceEqDiff]
  (refine hK _ _ ?_; (try clear hK); (try clear K))
  refine PW.go tab_ok [] fun K hK => ?_
  simp only [go_sem, ↓reduceIte, reduceCtorEq, Nat.reduceBEq, Nat.reduceAdd, Nat.reduceMul, Nat.reduceSub, Nat.reduceLT, Nat.reduceLeDiff, Nat.reduceEqDiff]
  refine (indexByteString_pc s c).use (Weaks.refl _) rfl rfl ?_
  refine PO.go tab_ok [] ?_
  simp only [go_sem, ↓reduceIte, reduceCtorEq, Nat.reduceBEq, Nat.reduceAdd, Nat.reduceMul, Nat.reduceSub, Nat.reduceLT, Nat.reduceLeDiff, Nat.reduceEqDiff]
  (refine hK _ _ ?_; (try clear hK); (try clear K))
  exact PW.ret (Pure.ret rfl rfl rfl)
theorem indexByte_pc (s : Str) (c : UInt8) : Pure Tryd.prog 26 [.str s, bPV c] (.int .i64 (Lib.indexByte s c)) := by
  refine PC.intro tab_ok Tryd.func26 rfl (by kernel_rfl) Tryd.ntmps26 (Nat.le_of_ble_eq_true rfl) (rs := _) (congrArg Array.toList Tryd.results26) ?_
  refine PW.go tab_ok [] fun K hK => ?_
  simp only [go_sem, ↓reduceIte, reduceCtorEq, Nat.reduceBEq, Nat.reduceAdd, Nat.reduceMul, Nat.reduceSub, Nat.reduceLT, Nat.reduceLeDiff, Nat.reduceEqDiff]
  (refine hK _ _ ?_; (try clear hK); (try clear K))
  refine PW.go tab_ok [] fun K hK => ?_
  simp only [go_sem, ↓reduceIte, reduceCtorEq, Nat.reduceBEq, Nat.reduceAdd, Nat.reduceMul, Nat.reduceSub, Nat.reduceLT, Nat.reduceLeDiff, Nat.reduceEqDiff]
  refine (liteIndexByte_pc s c).use (Weaks.refl _) rfl rfl ?_
  refine PO.go tab_ok [] ?_
  simp only [go_sem, ↓reduceIte, reduceCtorEq, Nat.reduceBEq, Nat.reduceAdd, Nat.reduceMul, Nat.reduceSub, Nat.reduceLT, Nat.reduceLeDiff, Nat.reduceEqDiff]
  (refine hK _ _ ?_; (try clear hK); (try clear K))
  exact PW.ret (Pure.ret rfl rfl rfl)
end Go.Proofs.YtolhbjfaahcekaaDoor
end
section
/- The lexer: a token. -/
set_option linter.unusedVariables false
set_option linter.unusedSimpArgs false
namespace Go.Proofs.YtolhbjfaahcekaaDoor
open Go

/-- A token, its bytes, what is wrong with it. -/
structure Tk3 where
  t : Tok
  n : Nat
  e : Int
def tk3PV (x : Tk3) : PV := .tup [tokPV x.t, .int .i64 (x.n : Int), .int .i64 x.e]
/-- A text behind its first quote: what is read so far, where it goes on. -/
def quoteF : Nat → Str → Str → Nat → Tk3
  | 0, _, _, _ => ⟨tok0, 0, 3⟩
  | m + 1, rest, out, at_ =>
    if Lib.indexByte rest 39 < 0 then ⟨tok0, 0, 3⟩
    else
      let k := (Lib.indexByte rest 39).toNat
      if prefB (rest.drop (k + 1)) [39] then quoteF m (rest.drop (k + 2)) (out ++ rest.take k ++ [39]) (at_ + k + 2)
      else if ((out ++ rest.take k).length : Int) > 40 then ⟨tok0, 0, 2⟩ else ⟨⟨4, out ++ rest.take k, 0, 0⟩, at_ + k + 1, 0⟩
def quotedM (s : Str) : Tk3 := quoteF s.length (s.drop 1) [] 1
def signF : List Str → Str → Tk3
  | [], _ => ⟨tok0, 0, 4⟩
  | x :: xs, s => if prefB s x then ⟨⟨5, x, 0, 0⟩, x.length, 0⟩ else signF xs s
def plain3 (s : Str) (n : Nat) : Tk3 := ⟨(plainM s n).1, n, (plainM s n).2⟩
def tokenM (s : Str) : Tk3 := match s with
  | [] => ⟨tok0, 0, 4⟩
  | c :: r => if (c.toNat : Int) == 39 then quotedM (c :: r) else if firstB c then plain3 (c :: r) (rowN smallB (c :: r))
    else if greatB c then plain3 (c :: r) (rowN greatB (c :: r)) else if digitB c then plain3 (c :: r) (rowN digitB (c :: r)) else signF signsL (c :: r)
theorem token_pc {c : UInt8} {r : Str} (hl : (c :: r).length ≤ 1000000) (hq : Pure Tryd.prog 16 [.str (c :: r)] (tk3PV (quotedM (c :: r)))) :
    Pure Tryd.prog 10 [.str (c :: r)] (tk3PV (tokenM (c :: r))) := by
  have hplain : ∀ n, n ≤ (c :: r).length → Pure Tryd.prog 22 [.str (c :: r), .int .i64 (n : Int)] (.tup [tokPV (plainM (c :: r) n).1, .int .i64 (plainM (c :: r) n).2]) := fun n hn => plain_pc hn hl
  have hget0 : (c :: r)[0]? = some c := rfl
  have htok : tokenM (c :: r) = if (c.toNat : Int) == 39 then quotedM (c :: r) else if firstB c then plain3 (c :: r) (rowN smallB (c :: r))
    else if greatB c then plain3 (c :: r) (rowN greatB (c :: r)) else if digitB c then plain3 (c :: r) (rowN digitB (c :: r)) else signF signsL (c :: r) := rfl
  generalize c :: r = s at hl hq hplain hget0 htok
  refine PC.intro tab_ok Tryd.func10 rfl (by kernel_rfl) Tryd.ntmps10 (Nat.le_of_ble_eq_true rfl) (rs := _) (congrArg Array.toList Tryd.results10) ?_
  refine PW.go tab_ok [] fun K hK => ?_
  simp only [go_sem, ↓reduceIte, reduceCtorEq, Nat.reduceBEq, Nat.reduceAdd, Nat.reduceMul, Nat.reduceSub, Nat.reduceLT, Nat.reduceLeDiff, Nat.reduceEqDiff]
  (refine hK _ _ ?_; (try clear hK); (try clear K))
  refine PW.go tab_ok [] fun K hK => ?_
  simp only [go_sem, ↓reduceIte, reduceCtorEq, Nat.reduceBEq, Nat.reduceAdd, Nat.reduceMul, Nat.reduceSub, Nat.reduceLT, Nat.reduceLeDiff, Nat.reduceEqDiff]
  (refine hK _ _ ?_; (try clear hK); (try clear K))
  refine PW.seq_k fun K0 hK0 => ?_
  refine PW.go tab_ok [] fun K hK => ?_
  simp only [hget0, Int.le_refl, go_sem, ↓reduceIte, reduceCtorEq, Nat.reduceBEq, Nat.reduceAdd, Nat.reduceMul, Nat.reduceSub, Nat.reduceLT, Nat.reduceLeDiff, Nat.reduceEqDiff]
  (refine hK _ _ ?_; (try clear hK); (try clear K))
  have hlast : ∀ {env : Env} {st : St} (n : Nat), n ≤ s.length → Sub env [(5, .int .i64 (n : Int)), (2, .ref 0 0), (0, .str s)] → st = ⟨[[.int .i64 0, .str [], .int .i64 0, .int .i64 0]], []⟩ → tokenM s = plain3 s n → K0 env st := by
    rintro env st n hn hsub rfl he
    refine hK0 _ _ (PW.less _ hsub ?_)
    refine PW.go tab_ok [] fun K hK => ?_
    simp only [go_sem, ↓reduceIte, reduceCtorEq, Nat.reduceBEq, Nat.reduceAdd, Nat.reduceMul, Nat.reduceSub, Nat.reduceLT, Nat.reduceLeDiff, Nat.reduceEqDiff]
    refine (hplain n hn).use (Weaks.refl _) rfl rfl ?_
    refine PO.go tab_ok [] ?_
    simp only [tokPV, go_sem, ↓reduceIte, reduceCtorEq, Nat.reduceBEq, Nat.reduceAdd, Nat.reduceMul, Nat.reduceSub, Nat.reduceLT, Nat.reduceLeDiff, Nat.reduceEqDiff]
    (refine hK _ _ ?_; (try clear hK); (try clear K))
    refine PW.go tab_ok [] fun K hK => ?_
    simp only [go_sem, ↓reduceIte, reduceCtorEq, Nat.reduceBEq, Nat.reduceAdd, Nat.reduceMul, Nat.reduceSub, Nat.reduceLT, Nat.reduceLeDiff, Nat.reduceEqDiff]
    (refine hK _ _ ?_; (try clear hK); (try clear K))
    exact PW.ret (Pure.ret rfl (by rw [he]; rfl) rfl)
  refine PW.block ?_
  refine PW.go tab_ok [] fun K hK => ?_
  simp only [go_sem, ↓reduceIte, reduceCtorEq, Nat.reduceBEq, Nat.reduceAdd, Nat.reduceMul, Nat.reduceSub, Nat.reduceLT, Nat.reduceLeDiff, Nat.reduceEqDiff]
  (refine hK _ _ ?_; (try clear hK); (try clear K))
  refine PW.cond_split (b := (c.toNat : Int) == 39) rfl ?_ ?_ <;> intro hb1
  · refine PW.go tab_ok [] fun K hK => ?_
    simp only [go_sem, ↓reduceIte, reduceCtorEq, Nat.reduceBEq, Nat.reduceAdd, Nat.reduceMul, Nat.reduceSub, Nat.reduceLT, Nat.reduceLeDiff, Nat.reduceEqDiff]
    refine hq.use (Weaks.refl _) rfl rfl ?_
    refine PO.go tab_ok [] ?_
    simp only [tk3PV, tokPV, go_sem, ↓reduceIte, reduceCtorEq, Nat.reduceBEq, Nat.reduceAdd, Nat.reduceMul, Nat.reduceSub, Nat.reduceLT, Nat.reduceLeDiff, Nat.reduceEqDiff]
    (refine hK _ _ ?_; (try clear hK); (try clear K))
    exact PW.ret (Pure.ret rfl (by rw [htok, hb1]; rfl) rfl)
  refine PW.go tab_ok [] fun K hK => ?_
  simp only [go_sem, ↓reduceIte, reduceCtorEq, Nat.reduceBEq, Nat.reduceAdd, Nat.reduceMul, Nat.reduceSub, Nat.reduceLT, Nat.reduceLeDiff, Nat.reduceEqDiff]
  refine (first_pc c).use (Weaks.refl _) rfl rfl ?_
  refine PO.go tab_ok [] ?_
  simp only [go_sem, ↓reduceIte, reduceCtorEq, Nat.reduceBEq, Nat.reduceAdd, Nat.reduceMul, Nat.reduceSub, Nat.reduceLT, Nat.reduceLeDiff, Nat.reduceEqDiff]
  (refine hK _ _ ?_; (try clear hK); (try clear K))
  refine PW.cond_split (b := firstB c) rfl ?_ ?_ <;> intro hb2
  · refine PW.goL tab_ok [] fun K hK => ?_
    simp only [go_sem, ↓reduceIte, reduceCtorEq, Nat.reduceBEq, Nat.reduceAdd, Nat.reduceMul, Nat.reduceSub, Nat.reduceLT, Nat.reduceLeDiff, Nat.reduceEqDiff]
    refine (lexrow_pc small_pc (s := s) (by omega)).use (Weaks.refl _) rfl rfl ?_
    refine PO.go tab_ok [] ?_
    simp only [go_sem, ↓reduceIte, reduceCtorEq, Nat.reduceBEq, Nat.reduceAdd, Nat.reduceMul, Nat.reduceSub, Nat.reduceLT, Nat.reduceLeDiff, Nat.reduceEqDiff]
    (refine hK _ _ ?_; (try clear hK); (try clear K))
    exact hlast _ (rowN_le smallB s) (by simp [Sub, eget]) rfl (by rw [htok, hb1, hb2]; rfl)
  refine PW.go tab_ok [] fun K hK => ?_
  simp only [go_sem, ↓reduceIte, reduceCtorEq, Nat.reduceBEq, Nat.reduceAdd, Nat.reduceMul, Nat.reduceSub, Nat.reduceLT, Nat.reduceLeDiff, Nat.reduceEqDiff]
  refine (great_pc c).use (Weaks.refl _) rfl rfl ?_
  refine PO.go tab_ok [] ?_
  simp only [go_sem, ↓reduceIte, reduceCtorEq, Nat.reduceBEq, Nat.reduceAdd, Nat.reduceMul, Nat.reduceSub, Nat.reduceLT, Nat.reduceLeDiff, Nat.reduceEqDiff]
  (refine hK _ _ ?_; (try clear hK); (try clear K))
  refine PW.cond_split (b := greatB c) rfl ?_ ?_ <;> intro hb3
  · refine PW.goL tab_ok [] fun K hK => ?_
    simp only [go_sem, ↓reduceIte, reduceCtorEq, Nat.reduceBEq, Nat.reduceAdd, Nat.reduceMul, Nat.reduceSub, Nat.reduceLT, Nat.reduceLeDiff, Nat.reduceEqDiff]
    refine (lexrow_pc great_pc (s := s) (by omega)).use (Weaks.refl _) rfl rfl ?_
    refine PO.go tab_ok [] ?_
    simp only [go_sem, ↓reduceIte, reduceCtorEq, Nat.reduceBEq, Nat.reduceAdd, Nat.reduceMul, Nat.reduceSub, Nat.reduceLT, Nat.reduceLeDiff, Nat.reduceEqDiff]
    (refine hK _ _ ?_; (try clear hK); (try clear K))
    exact hlast _ (rowN_le greatB s) (by simp [Sub, eget]) rfl (by rw [htok, hb1, hb2, hb3]; rfl)
  refine PW.go tab_ok [] fun K hK => ?_
  simp only [go_sem, ↓reduceIte, reduceCtorEq, Nat.reduceBEq, Nat.reduceAdd, Nat.reduceMul, Nat.reduceSub, Nat.reduceLT, Nat.reduceLeDiff, Nat.reduceEqDiff]
  refine (digit_pc c).use (Weaks.refl _) rfl rfl ?_
  refine PO.go tab_ok [] ?_
  simp only [go_sem, ↓reduceIte, reduceCtorEq, Nat.reduceBEq, Nat.reduceAdd, Nat.reduceMul, Nat.reduceSub, Nat.reduceLT, Nat.reduceLeDiff, Nat.reduceEqDiff]
  (refine hK _ _ ?_; (try clear hK); (try clear K))
  refine PW.cond_split (b := digitB c) rfl ?_ ?_ <;> intro hb4
  · refine PW.goL tab_ok [] fun K hK => ?_
    simp only [go_sem, ↓reduceIte, reduceCtorEq, Nat.reduceBEq, Nat.reduceAdd, Nat.reduceMul, Nat.reduceSub, Nat.reduceLT, Nat.reduceLeDiff, Nat.reduceEqDiff]
    refine (lexrow_pc digit_pc (s := s) (by omega)).use (Weaks.refl _) rfl rfl ?_
    refine PO.go tab_ok [] ?_
    simp only [go_sem, ↓reduceIte, reduceCtorEq, Nat.reduceBEq, Nat.reduceAdd, Nat.reduceMul, Nat.reduceSub, Nat.reduceLT, Nat.reduceLeDiff, Nat.reduceEqDiff]
    (refine hK _ _ ?_; (try clear hK); (try clear K))
    exact hlast _ (rowN_le digitB s) (by simp [Sub, eget]) rfl (by rw [htok, hb1, hb2, hb3, hb4]; rfl)
  have hts : tokenM s = signF signsL s := by rw [htok, hb1, hb2, hb3, hb4]; rfl
  refine PW.seq_k fun K5 hK5 => ?_
  refine PW.go tab_ok [] fun K hK => ?_
  simp only [go_sem, ↓reduceIte, reduceCtorEq, Nat.reduceBEq, Nat.reduceAdd, Nat.reduceMul, Nat.reduceSub, Nat.reduceLT, Nat.reduceLeDiff, Nat.reduceEqDiff]
  refine signs_pc.use (Weaks.refl _) rfl rfl ?_
  refine PO.go tab_ok [] ?_
  have hsl : (strs signsL).length = 16 := rfl
  simp only [hsl, go_sem, ↓reduceIte, reduceCtorEq, Nat.reduceBEq, Nat.reduceAdd, Nat.reduceMul, Nat.reduceSub, Nat.reduceLT, Nat.reduceLeDiff, Nat.reduceEqDiff]
  (refine hK _ _ ?_; (try clear hK); (try clear K))
  refine PW.block (PW.loop (α := Nat) (fun k => [(15, .int .i64 (k : Int)), (14, .int .i64 (16 : Int)), (13, .list 1 (strs signsL) .no), (2, .ref 0 0), (0, .str s)]) (fun _ => ⟨[[.int .i64 0, .str [], .int .i64 0, .int .i64 0]], []⟩)
    (fun k => k ≤ 16 ∧ signF (signsL.drop k) s = signF signsL s) (fun k => 16 - k) 0 ⟨Nat.zero_le _, rfl⟩ ?_ rfl (fun _ _ => ⟨rfl, rfl⟩) ?_)
  · simp [Sub, eget]
  rintro k ⟨hk, he⟩
  refine PW.go tab_ok [] fun K hK => ?_
  simp only [go_sem, ↓reduceIte, reduceCtorEq, Nat.reduceBEq, Nat.reduceAdd, Nat.reduceMul, Nat.reduceSub, Nat.reduceLT, Nat.reduceLeDiff, Nat.reduceEqDiff]
  (refine hK _ _ ?_; (try clear hK); (try clear K))
  refine PW.seq_k fun K2 hK2 => ?_
  refine PW.cond_split (b := decide ((k : Int) < 16)) rfl ?_ ?_ <;> intro hb
  · have hlt : k < signsL.length := by
      have : (k : Int) < 16 := by simpa using hb
      show k < 16
      omega
    have hlt' : k < 16 := hlt
    have h0 : (0 : Int) ≤ (k : Int) := by omega
    have hget : (strs signsL)[((k : Int)).toNat]? = some (.str signsL[k]) := by rw [Int.toNat_natCast, strs, List.getElem?_map, List.getElem?_eq_getElem hlt]; rfl
    have hdr : signsL.drop k = signsL[k] :: signsL.drop (k + 1) := List.drop_eq_getElem_cons hlt
    refine PW.skip (hK2 _ _ ?_)
    clear hK2 K2
    refine PW.seq_k fun K3 hK3 => PW.block ?_
    generalize signsL[k] = x at hget hdr
    rw [hdr] at he
    refine PW.go tab_ok [] fun K hK => ?_
    simp only [h0, hget, go_sem, ↓reduceIte, reduceCtorEq, Nat.reduceBEq, Nat.reduceAdd, Nat.reduceMul, Nat.reduceSub, Nat.reduceLT, Nat.reduceLeDiff, Nat.reduceEqDiff]
    (refine hK _ _ ?_; (try clear hK); (try clear K))
    refine PW.go tab_ok [] fun K hK => ?_
    simp only [go_sem, ↓reduceIte, reduceCtorEq, Nat.reduceBEq, Nat.reduceAdd, Nat.reduceMul, Nat.reduceSub, Nat.reduceLT, Nat.reduceLeDiff, Nat.reduceEqDiff]
    refine (hasPrefix_pc s x).use (Weaks.refl _) rfl rfl ?_
    refine PO.go tab_ok [] ?_
    simp only [go_sem, ↓reduceIte, reduceCtorEq, Nat.reduceBEq, Nat.reduceAdd, Nat.reduceMul, Nat.reduceSub, Nat.reduceLT, Nat.reduceLeDiff, Nat.reduceEqDiff]
    (refine hK _ _ ?_; (try clear hK); (try clear K))
    refine PW.cond_split (b := prefB s x) rfl ?_ ?_ <;> intro hb5
    · refine PW.go tab_ok [] fun K hK => ?_
      simp only [go_sem, ↓reduceIte, reduceCtorEq, Nat.reduceBEq, Nat.reduceAdd, Nat.reduceMul, Nat.reduceSub, Nat.reduceLT, Nat.reduceLeDiff, Nat.reduceEqDiff]
      (refine hK _ _ ?_; (try clear hK); (try clear K))
      refine PW.ret (Pure.ret rfl ?_ rfl)
      rw [hts, ← he]
      simp only [signF, hb5, if_true]
      rfl
    · refine PW.skip (hK3 _ _ ?_)
      have hw : IntKind.i64.wrap ((k : Int) + 1) = ((k + 1 : Nat) : Int) := by
        rw [show (k : Int) + 1 = ((k + 1 : Nat) : Int) from by omega]
        exact wrap_nat (by omega)
      refine PW.goL tab_ok [] fun K hK => ?_
      simp only [go_sem, ↓reduceIte, reduceCtorEq, Nat.reduceBEq, Nat.reduceAdd, Nat.reduceMul, Nat.reduceSub, Nat.reduceLT, Nat.reduceLeDiff, Nat.reduceEqDiff]
      (refine hK _ _ ?_; (try clear hK); (try clear K))
      refine ⟨k + 1, ⟨by omega, ?_⟩, by omega, by simp [Sub, eget, hw], ?_, by simp [Env.clean, PV.clean, PVs.clean_data (strs_clean signsL)]⟩
      · rw [← he]
        simp [signF, hb5]
      · exact ⟨by simp [Weaks.refl, PV.isCell], rfl, by simp [PVs.clean, PV.clean]⟩
  · have hge : k = 16 := by
      have : ¬ (k : Int) < 16 := by simpa using hb
      omega
    subst hge
    have hnone : tokenM s = ⟨tok0, 0, 4⟩ := by rw [hts, ← he]; rfl
    refine PW.exit (hK5 _ _ ?_)
    refine PW.go tab_ok [] fun K hK => ?_
    simp only [go_sem, ↓reduceIte, reduceCtorEq, Nat.reduceBEq, Nat.reduceAdd, Nat.reduceMul, Nat.reduceSub, Nat.reduceLT, Nat.reduceLeDiff, Nat.reduceEqDiff]
    (refine hK _ _ ?_; (try clear hK); (try clear K))
    exact PW.ret (Pure.ret rfl (by rw [hnone]; rfl) rfl)
end Go.Proofs.YtolhbjfaahcekaaDoor
end
