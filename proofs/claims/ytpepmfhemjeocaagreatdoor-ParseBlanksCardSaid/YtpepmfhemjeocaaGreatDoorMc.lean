/- Texts of this claim's author, joined: Vq, Vr, Vs, Vu, P0, Pb, Qa, Qb, Qc, Qd, Qe, Qf, Qg, Qh, Sb, Sc, Za, Zd, Pa, Pc, Pd, Pe, Pf, Pg, Ph, Pi, Pj, Pk, Pl. -/
import Derived.Test.YtpepmfhemjeocaaGreatDoorMb
import Derived.Orders
import Derived.Scope
import Derived.Lib.Bytealg
import Derived.Laws.Externs
import Derived.Test.YtpepmfhemjeocaaGreatDoorMa
import Derived.Lib.IndexBytes
import Derived.Test.YtpepmfhemjeocaaGreatDoorRows
import Derived.ProofKit
import Derived.Below
import Derived.ChangeSame
import Derived.ChangeMaps5
import Derived.HandedShaped
import Derived.Shelf.Vars
import Derived.Lay
import Derived.MakeChecks
import Derived.Stop.LaidErr
import Derived.Carry
import Derived.LaidLaws
section
/- What an operation looks at, and which look at the temporaries alone. -/
set_option linter.unusedVariables false
set_option linter.unusedSimpArgs false
namespace Go.Proofs.YtpepmfhemjeocaaGreatDoor

theorem vls_congr {E F : Env} : ∀ {os : List Operand}, (∀ x ∈ os, vl F x = vl E x) → vls F os = vls E os
  | [], _ => rfl
  | o :: os, h => by simp only [vls, h o (by simp), vls_congr (os := os) fun x hx => h x (by simp [hx])]
theorem vlParts_congr {E F : Env} : ∀ {os : List (Nat × Operand)}, (∀ x ∈ os.map (·.2), vl F x = vl E x) → vlParts F os = vlParts E os
  | [], _ => rfl
  | (i, o) :: os, h => by simp only [vlParts, h o (by simp), vlParts_congr (os := os) fun x hx => h x (by simp only [List.map_cons, List.mem_cons]; exact .inr hx)]
theorem vlo_congr {E F : Env} {o : Option Operand} (h : ∀ x ∈ o.toArray, vl F x = vl E x) : vlo F o = vlo E o := by
  cases o with
  | none => rfl
  | some o => simp only [vlo, h o (by simp)]

theorem stepF_congr {tt : TTab} {ow : List Nat} {nt : Nat} {o : Oper} {E F E' : Env} {st st' : St} (hv : ∀ x ∈ o.op.operands, vl F x = vl E x) (h : stepF tt ow nt o E st = some (E', st')) :
    ∃ x, E' = put nt o.dst E x ∧ stepF tt ow nt o F st = some (put nt o.dst F x, st') := by
  obtain ⟨dst, op, type, pos, after, guard⟩ := o
  unfold stepF at h ⊢
  cases op <;> simp only at h ⊢ <;> first | cases h; done | skip
  case alloc => (repeat' split at h) <;> cases h; exact ⟨_, rfl, by simp only [*]⟩
  case makeFunc fn fs cs =>
    simp only [Op.operands] at hv
    rw [vls_congr (E := E) (F := F) (os := fs.toList) fun x hx => hv x (by simp at hx ⊢; exact .inl hx), vls_congr (E := E) (F := F) (os := cs.toList) fun x hx => hv x (by simp at hx ⊢; exact .inr hx)]
    (repeat' split at h) <;> cases h; exact ⟨_, rfl, by simp only [*]⟩
  case build T ps =>
    simp only [Op.operands] at hv
    rw [vlParts_congr (E := E) (F := F) (os := ps.toList) fun x hx => hv x (by simpa using hx)]
    (repeat' split at h) <;> cases h; exact ⟨_, rfl, by simp only [*]⟩
  case buildSlice T n ps =>
    simp only [Op.operands] at hv
    rw [vlParts_congr (E := E) (F := F) (os := ps.toList) fun x hx => hv x (by simpa using hx)]
    (repeat' split at h) <;> cases h <;> exact ⟨_, rfl, by simp +contextual only [*, implies_true, and_self, if_true]⟩
  case slice T x lo hi mx =>
    cases mx with
    | some m => cases h
    | none =>
      simp only [Op.operands] at hv
      simp only at h ⊢
      rw [vlo_congr (E := E) (F := F) (o := lo) fun x hx => hv x (by simp at hx ⊢; simp [hx]), vlo_congr (E := E) (F := F) (o := hi) fun x hx => hv x (by simp at hx ⊢; simp [hx]), hv x (by simp)]
      (repeat' split at h) <;> cases h; exact ⟨_, rfl, by simp only [*]⟩
  case call c =>
    have hargs : ∀ x ∈ c.args.toList, vl F x = vl E x := fun x hx => hv x (by simp only [Op.operands, Call.operands]; simp at hx ⊢; exact .inr hx)
    split at h
    · split at h
      · rename_i T x h1 h2
        rw [h2] at hargs
        simp only [h1, h2, hargs x (by simp)]
        (repeat' split at h) <;> cases h <;> exact ⟨_, rfl, by simp only [*]⟩
      · cases h
    · split at h
      · rename_i T T' s x h1 h2
        rw [h2] at hargs
        simp only [h1, h2, hargs s (by simp), hargs x (by simp)]
        (repeat' split at h) <;> cases h
        exact ⟨_, rfl, by simp only [*]; simp⟩
      · cases h
    · split at h
      · rename_i x y h2
        rw [h2] at hargs
        simp only [h2, hargs x (by simp), hargs y (by simp)]
        split at h
        · split at h
          · split at h
            · rename_i h5
              cases h
              exact ⟨_, rfl, by simp only [*, if_true]⟩
            · cases h
          · cases h
        · cases h
      · cases h
    · cases h
  case pick c a b =>
    simp only [Op.operands] at hv
    rw [hv c (by simp), hv a (by simp), hv b (by simp)]
    (repeat' split at h) <;> cases h <;> first | exact ⟨_, rfl, by simp only [*]⟩ | exact ⟨_, rfl, rfl⟩
  case binOp op T x y _ =>
    simp only [Op.operands] at hv
    rw [hv x (by simp), hv y (by simp)]
    (repeat' split at h) <;> cases h <;> first | exact ⟨_, rfl, rfl⟩ | exact ⟨_, rfl, by simp only [*]⟩
  case store T x y =>
    simp only [Op.operands] at hv
    rw [hv x (by simp), hv y (by simp)]
    (repeat' split at h) <;> cases h; exact ⟨_, rfl, by simp only [*]⟩
  case indexAddr T x y =>
    simp only [Op.operands] at hv
    rw [hv x (by simp), hv y (by simp)]
    (repeat' split at h) <;> cases h; exact ⟨_, rfl, by simp only [*, if_true]⟩
  case index T x y =>
    simp only [Op.operands] at hv
    rw [hv x (by simp), hv y (by simp)]
    (repeat' split at h) <;> cases h; exact ⟨_, rfl, by simp only [*, if_true]⟩
  case unOp op T x =>
    simp only [Op.operands] at hv
    rw [hv x (by simp)]
    split at h <;> first | (cases h; exact ⟨_, rfl, by simp only [*]⟩) | cases h
  all_goals
    simp only [Op.operands] at hv
    rw [hv _ (Array.mem_singleton.2 rfl)]
    (repeat' split at h) <;> cases h <;> exact ⟨_, rfl, by simp only [*, if_true]⟩

/-- Looks at the temporaries alone. -/
def pureO (ow : List Nat) (o : Oper) : Bool := match o.op with
  | .load .. | .store .. | .alloc _ | .box .. => false
  | .buildSlice .. => !(owns ow o.dst)
  | .call c => match c.callee with
    | .builtin .len => true
    | _ => false
  | _ => true
def isLoad (o : Oper) : Bool := match o.op with
  | .load .. => true
  | _ => false
theorem stepF_pure {tt : TTab} {ow : List Nat} {nt : Nat} {o : Oper} {E E' : Env} {st st' : St} (hp : pureO ow o = true) (h : stepF tt ow nt o E st = some (E', st')) (s : St) : st' = st ∧ stepF tt ow nt o E s = some (E', s) := by
  obtain ⟨dst, op, type, pos, after, guard⟩ := o
  unfold stepF at h ⊢
  unfold pureO at hp
  cases op <;> simp only at h hp ⊢ <;> first | cases h; done | cases hp; done | skip
  case slice T x lo hi mx =>
    cases mx with
    | some m => cases h
    | none =>
      simp only at h ⊢
      (repeat' split at h) <;> cases h; exact ⟨rfl, by simp only [*]⟩
  case buildSlice T n ps =>
    have hw : owns ow dst = false := by simpa using hp
    simp only [hw] at h ⊢
    (repeat' split at h) <;> cases h <;> exact ⟨rfl, by simp +contextual only [*, implies_true, and_self, if_true]⟩
  case call c =>
    split at hp
    · rename_i hc
      simp only [hc] at h ⊢
      split at h
      · rename_i T x h1 h2
        try simp only [h1, h2]
        (repeat' split at h) <;> cases h <;> exact ⟨rfl, by simp only [*]⟩
      · cases h
    · cases hp
  case pick => (repeat' split at h) <;> cases h <;> first | exact ⟨rfl, by simp only [*]⟩ | exact ⟨rfl, rfl⟩
  case unOp => split at h <;> first | (cases h; exact ⟨rfl, by simp only [*]⟩) | cases h
  all_goals (repeat' split at h) <;> cases h <;> exact ⟨rfl, by simp only [*, if_true]⟩
theorem stepF_load {tt : TTab} {ow : List Nat} {nt : Nat} {o : Oper} {E E' : Env} {st st' : St} (hp : isLoad o = true) (h : stepF tt ow nt o E st = some (E', st')) : st' = st := by
  obtain ⟨dst, op, type, pos, after, guard⟩ := o
  unfold stepF at h
  cases op <;> first | cases hp; done | skip
  simp only at h
  (repeat' split at h) <;> cases h; rfl
theorem callOf_congr {o : Oper} {E F : Env} (hv : ∀ x ∈ o.op.operands, vl F x = vl E x) : callOf F o.op = callOf E o.op := by
  unfold callOf
  split
  · rename_i c ho
    rw [ho] at hv
    simp only [Op.operands, Call.operands] at hv
    split
    · rename_i f hf
      rw [hf] at hv
      rw [hv f (by simp), vls_congr (E := E) (F := F) (os := c.args.toList) fun x hx => hv x (by simp at hx ⊢; exact .inr hx)]
    · rfl
  · rfl

/-- Is it wanted? -/
def wantF (ops : Array Oper) (o : Oper) (E : Env) : Option Bool := match o.guard with
  | none => some true
  | some (j, want) => match gdOf ops j with
    | some d => match eg E d with
      | some x => gval want x
      | none => none
    | none => none
/-- An operation that is no call, with its guard. -/
def stepW (tt : TTab) (ow : List Nat) (nt : Nat) (ops : Array Oper) (o : Oper) (E : Env) (st : St) : Option (Env × St) := match wantF ops o E with
  | some true => match callOf E o.op with
    | none => stepF tt ow nt o E st
    | some _ => none
  | some false => some (put nt o.dst E (.val undef), st)
  | none => none
theorem gdOf_eq (ops : Array Oper) (j : Nat) : gdOf ops j = (ops[j]?).bind (·.dst) := by unfold gdOf; rw [Array.getElem?_toList]
theorem looks_vl {ops : Array Oper} {o : Oper} {E F : Env} (h : ∀ t ∈ o.looksAt ops, eg F t = eg E t) : ∀ x ∈ o.op.operands, vl F x = vl E x := by
  intro x hx
  cases x with
  | tmp t => exact h t (List.mem_append_left _ (List.mem_filterMap.2 ⟨.tmp t, by simpa using hx, rfl⟩))
  | const v => rfl
  | func f => rfl
  | global g => rfl
theorem wantF_congr {ops : Array Oper} {o : Oper} {E F : Env} (h : ∀ t ∈ o.looksAt ops, eg F t = eg E t) : wantF ops o F = wantF ops o E := by
  unfold wantF
  cases hg : o.guard with
  | none => rfl
  | some gw =>
    obtain ⟨j, want⟩ := gw
    simp only
    cases hd : gdOf ops j with
    | none => rfl
    | some d =>
      simp only
      rw [h d]
      rw [gdOf_eq] at hd
      exact List.mem_append_right _ (by simp only [hg, hd]; simp)
theorem stepW_congr {tt : TTab} {ow : List Nat} {nt : Nat} {ops : Array Oper} {o : Oper} {E F E' : Env} {st st' : St} (hv : ∀ t ∈ o.looksAt ops, eg F t = eg E t) (h : stepW tt ow nt ops o E st = some (E', st')) :
    ∃ x, E' = put nt o.dst E x ∧ stepW tt ow nt ops o F st = some (put nt o.dst F x, st') := by
  unfold stepW at h ⊢
  rw [wantF_congr hv, callOf_congr (looks_vl hv)]
  split at h
  · split at h
    · rename_i hw _ hc
      obtain ⟨x, h1, h2⟩ := stepF_congr (looks_vl hv) h
      exact ⟨x, h1, by (try simp only [hw, hc]); exact h2⟩
    · cases h
  · rename_i hw
    cases h
    exact ⟨_, rfl, by simp only [hw]⟩
  · cases h
theorem stepW_pure {tt : TTab} {ow : List Nat} {nt : Nat} {ops : Array Oper} {o : Oper} {E E' : Env} {st st' : St} (hp : pureO ow o = true) (h : stepW tt ow nt ops o E st = some (E', st')) (s : St) : st' = st ∧ stepW tt ow nt ops o E s = some (E', s) := by
  unfold stepW at h ⊢
  split at h
  · split at h
    · rename_i hw _ hc
      try simp only [hw, hc]
      exact stepF_pure hp h s
    · cases h
  · rename_i hw
    cases h
    exact ⟨rfl, by simp only [hw]⟩
  · cases h
theorem stepW_load {tt : TTab} {ow : List Nat} {nt : Nat} {ops : Array Oper} {o : Oper} {E E' : Env} {st st' : St} (hp : isLoad o = true) (h : stepW tt ow nt ops o E st = some (E', st')) : st' = st := by
  unfold stepW at h
  split at h
  · split at h
    · exact stepF_load hp h
    · cases h
  · cases h; rfl
  · cases h
theorem eg_put (nt : Nat) (d : Option Tmp) (E : Env) (x : PV) (t : Nat) : eg (put nt d E x) t = if d = some t ∧ t < nt then some x else eg E t := by
  cases d with
  | none => simp [put]
  | some d =>
    simp only [put]
    by_cases h : d < nt
    · rw [if_pos h]
      simp only [eg]
      by_cases ht : t = d
      · subst ht; simp [h]
      · have h1 : (t == d) = false := by simpa using ht
        rw [h1, if_neg (by rintro ⟨h2, _⟩; injection h2 with h2; exact ht h2.symm)]
        rfl
    · rw [if_neg h, if_neg]
      rintro ⟨h2, h3⟩
      injection h2 with h2
      subst h2
      exact h h3
end Go.Proofs.YtpepmfhemjeocaaGreatDoor
end
section
/- A region in any order: what may be read early, is; the rest stands in a row. -/
set_option linter.unusedVariables false
set_option linter.unusedSimpArgs false
namespace Go.Proofs.YtpepmfhemjeocaaGreatDoor

def predsOf (o : Oper) : List Nat := (o.after.toList.filter (Region.binds .any)).map (·.on)
def isEff (ow : List Nat) (o : Oper) : Bool := !(pureO ow o || isLoad o)
def ordOK (ow : List Nat) (ops : Array Oper) : List Nat → List (Nat × List Nat) → Bool
  | _, [] => true
  | done, (i, chk) :: r => match ops[i]? with
    | none => false
    | some o => !done.contains i && (predsOf o).all done.contains && (!isEff ow o ||
        (r.all (fun j => match ops[j.1]? with
          | some oj => (predsOf oj).any fun p => p == i || (r.map (·.1)).contains p
          | none => false) &&
        done.all fun k => (predsOf o).contains k || chk.contains k || match ops[k]? with
          | some ok => pureO ow ok
          | none => false)) && ordOK ow ops (i :: done) r
def drawOK (nt : Nat) (ow : List Nat) (ops : Array Oper) (ord : List (Nat × List Nat)) : Bool :=
  (List.range ops.size).all (fun i => (ord.map (·.1)).contains i) &&
  (List.range ops.size).all (fun k => match ops[k]? with
    | some o => ((match o.dst with
      | some d => decide (d < nt)
      | none => true) && (predsOf o).all (fun p => decide (p < k))) && (List.range ops.size).all fun i => match ops[i]? with
      | some o' => match o'.dst with
        | some d => (!(o.looksAt ops).contains d || (predsOf o).contains i) && (i == k || o.dst != some d)
        | none => true
      | none => true
    | none => true) && ordOK ow ops [] ord

structure Sta (nt : Nat) (ow : List Nat) (ops : Array Oper) (done : List Nat) (r : List (Nat × List Nat)) : Prop where
  all : ∀ i, i < ops.size → i ∈ done ∨ i ∈ r.map (·.1)
  dst : ∀ (k : Nat) (o : Oper) (d : Tmp), ops[k]? = some o → o.dst = some d → d < nt
  less : ∀ k o, ops[k]? = some o → ∀ p ∈ predsOf o, p < k
  ssa : ∀ k o i o' d, ops[k]? = some o → ops[i]? = some o' → o'.dst = some d → (d ∈ o.looksAt ops → i ∈ predsOf o) ∧ (i ≠ k → o.dst ≠ some d)
  pre : ∀ (k : Nat), k ∈ done → ∀ ok : Oper, ops[k]? = some ok → ∀ p ∈ predsOf ok, p ∈ done
  ord : ordOK ow ops done r = true
theorem lt_size {ops : Array Oper} {k : Nat} {o : Oper} (h : ops[k]? = some o) : k < ops.size := (Array.getElem?_eq_some_iff.1 h).1
theorem Sta.of {nt : Nat} {ow : List Nat} {ops : Array Oper} {ord : List (Nat × List Nat)} (h : drawOK nt ow ops ord = true) : Sta nt ow ops [] ord := by
  unfold drawOK at h
  rw [Bool.and_eq_true, Bool.and_eq_true, List.all_eq_true, List.all_eq_true] at h
  obtain ⟨⟨h1, h2⟩, h3⟩ := h
  refine ⟨fun i hi => .inr ?_, fun k o d hk hd => ?_, fun k o hk p hp => ?_, fun k o i o' d hk hi hd => ?_, by simp, h3⟩
  · simpa using h1 i (List.mem_range.2 hi)
  · have := h2 k (List.mem_range.2 (lt_size hk))
    simp only [hk, hd, Bool.and_eq_true, List.all_eq_true] at this
    simpa using this.1.1
  · have := h2 k (List.mem_range.2 (lt_size hk))
    simp only [hk, Bool.and_eq_true, List.all_eq_true] at this
    simpa using this.1.2 p hp
  · have := h2 k (List.mem_range.2 (lt_size hk))
    simp only [hk, Bool.and_eq_true, List.all_eq_true] at this
    have := this.2 i (List.mem_range.2 (lt_size hi))
    simp only [hi, hd, Bool.and_eq_true, Bool.or_eq_true, Bool.not_eq_true', List.contains_eq_mem, decide_eq_true_eq, decide_eq_false_iff_not, beq_iff_eq, bne_iff_ne] at this
    exact ⟨fun hm => this.1.resolve_left fun hn => hn hm, fun hne => this.2.resolve_left hne⟩
theorem ordOK_not {ow : List Nat} {ops : Array Oper} : ∀ {r : List (Nat × List Nat)} {done : List Nat}, ordOK ow ops done r = true → ∀ j ∈ r.map (·.1), j ∉ done
  | [], done, _, j, hj => by simp at hj
  | (i, chk) :: r, done, h, j, hj => by
    unfold ordOK at h
    split at h
    · cases h
    · rename_i o ho
      simp only [Bool.and_eq_true] at h
      simp only [List.map_cons, List.mem_cons] at hj
      rcases hj with rfl | hj
      · simpa using h.1.1.1
      · have := ordOK_not h.2 j hj
        simp at this
        exact this.2
theorem Sta.next {nt : Nat} {ow : List Nat} {ops : Array Oper} {done : List Nat} {i : Nat} {chk : List Nat} {r : List (Nat × List Nat)} (h : Sta nt ow ops done ((i, chk) :: r)) :
    Sta nt ow ops (i :: done) r ∧ ∃ o, ops[i]? = some o ∧ i ∉ done ∧ (∀ p ∈ predsOf o, p ∈ done) ∧ (isEff ow o = true → (∀ j ∈ r.map (·.1), ∀ oj, ops[j]? = some oj → ∃ p ∈ predsOf oj, p = i ∨ p ∈ r.map (·.1)) ∧
      ∀ k ∈ done, k ∈ predsOf o ∨ k ∈ chk ∨ ∀ ok, ops[k]? = some ok → pureO ow ok = true) := by
  have ho := h.ord
  unfold ordOK at ho
  split at ho
  · cases ho
  · rename_i o hi
    simp only [Bool.and_eq_true] at ho
    obtain ⟨⟨⟨h1, h2⟩, h3⟩, h4⟩ := ho
    have h2' : ∀ p ∈ predsOf o, p ∈ done := by simpa using h2
    refine ⟨⟨fun j hj => ?_, h.dst, h.less, h.ssa, fun k hk ok hok p hp => ?_, h4⟩, o, hi, by simpa using h1, h2', fun he => ?_⟩
    · rcases h.all j hj with hd | hd
      · exact .inl (by simp [hd])
      · simp only [List.map_cons, List.mem_cons] at hd
        rcases hd with rfl | hd
        · exact .inl (by simp)
        · exact .inr hd
    · simp only [List.mem_cons] at hk ⊢
      rcases hk with rfl | hk
      · rw [hi] at hok
        cases hok
        exact .inr (h2' p hp)
      · exact .inr (h.pre k hk ok hok p hp)
    · rw [he] at h3
      simp only [Bool.not_true, Bool.false_or, Bool.and_eq_true, List.all_eq_true] at h3
      refine ⟨fun j hj oj hoj => ?_, fun k hk => ?_⟩
      · obtain ⟨p, hp, rfl⟩ := List.mem_map.1 hj
        have := h3.1 p hp
        simp only [hoj, List.any_eq_true, Bool.or_eq_true, beq_iff_eq, List.contains_eq_mem, decide_eq_true_eq] at this
        exact this
      · have := h3.2 k hk
        simp only [Bool.or_eq_true, List.contains_eq_mem, decide_eq_true_eq, or_assoc] at this
        rcases this with h | h | h
        · exact .inl h
        · exact .inr (.inl h)
        · refine .inr (.inr fun ok hok => ?_)
          rw [hok] at h
          exact h

/-- What has been read early and not yet by the machine. -/
def Pnd (tt : TTab) (ow : List Nat) (nt : Nat) (ops : Array Oper) (E : Env) (st : St) (k : Nat) : Prop :=
  ∃ o x, ops[k]? = some o ∧ stepW tt ow nt ops o E st = some (put nt o.dst E x, st) ∧ ∀ t, eg (put nt o.dst E x) t = eg E t
def hs (ops : Array Oper) (listed : Array Bool) (done : List Nat) : List Tmp := done.filterMap fun k => if listed.getD k true then none else (ops[k]?).bind (·.dst)
def hide (l : List Tmp) : Env → Env
  | [] => []
  | (j, x) :: r => if j ∈ l then hide l r else (j, x) :: hide l r
theorem eg_hide (l : List Tmp) (t : Tmp) : ∀ E : Env, eg (hide l E) t = if t ∈ l then none else eg E t
  | [] => by simp [hide, eg]
  | (j, x) :: r => by
    simp only [hide]
    by_cases hj : j ∈ l
    · rw [if_pos hj, eg_hide l t r]
      by_cases ht : t ∈ l
      · simp [ht]
      · have : (t == j) = false := by
          simp only [beq_eq_false_iff_ne]
          rintro rfl
          exact ht hj
        simp [ht, eg, this]
    · rw [if_neg hj]
      simp only [eg, eg_hide l t r]
      by_cases ht : t = j
      · subst ht; simp [hj]
      · have : (t == j) = false := by simpa using ht
        rw [this]
        rfl
theorem mem_hs {ops : Array Oper} {listed : Array Bool} {done : List Nat} {t : Tmp} : t ∈ hs ops listed done ↔ ∃ k ∈ done, listed.getD k true = false ∧ ∃ o, ops[k]? = some o ∧ o.dst = some t := by
  unfold hs
  rw [List.mem_filterMap]
  constructor
  · rintro ⟨k, hk, h⟩
    split at h
    · cases h
    · rename_i hl
      obtain ⟨o, h1, h2⟩ := Option.bind_eq_some_iff.1 h
      exact ⟨k, hk, by simpa using hl, o, h1, h2⟩
  · rintro ⟨k, hk, hl, o, h1, h2⟩
    exact ⟨k, hk, by rw [if_neg (by rw [hl]; simp), h1]; exact h2⟩
theorem ARep.of_get {G : Gh} {nt : Nat} {E F : Env} {a : Act} (r : ARep G nt F a) (h : ∀ t x, eg E t = some x → eg F t = some x) : ARep G nt E a :=
  ⟨r.defers, r.size, fun i x e => r.get i x (by rw [← eg_eq] at e ⊢; exact h i x e)⟩
theorem mem_ready' {ops : Array Oper} {listed : Array Bool} {j : Nat} : j ∈ Region.ready .any ops listed ↔ listed.getD j true = false ∧ ∃ o, ops[j]? = some o ∧ ∀ p ∈ predsOf o, listed.getD p false = true := by
  rw [mem_ready]
  constructor
  · rintro ⟨h1, o, h2, h3⟩
    refine ⟨h1, o, h2, fun p hp => ?_⟩
    simp only [predsOf, List.mem_map, List.mem_filter] at hp
    obtain ⟨e, ⟨he, hb⟩, rfl⟩ := hp
    exact h3 e (by simpa using he) hb
  · rintro ⟨h1, o, h2, h3⟩
    refine ⟨h1, o, h2, fun e he hb => h3 e.on ?_⟩
    simp only [predsOf, List.mem_map, List.mem_filter]
    exact ⟨e, ⟨by simpa using he, hb⟩, rfl⟩
theorem unlisted {listed : Array Bool} {i : Nat} : listed.getD i true = false ↔ listed[i]? = some false := by
  rw [Array.getD_eq_getD_getElem?]
  cases h : listed[i]? with
  | none => simp
  | some b => simp
theorem islisted {listed : Array Bool} {i : Nat} : listed.getD i false = true ↔ listed[i]? = some true := by
  rw [Array.getD_eq_getD_getElem?]
  cases h : listed[i]? with
  | none => simp
  | some b => simp
theorem count_set {listed : Array Bool} {i : Nat} (h : listed[i]? = some false) : (listed.setIfInBounds i true).toList.count false + 1 = listed.toList.count false := by
  obtain ⟨hlt, hi⟩ := Array.getElem?_eq_some_iff.1 h
  rw [Array.toList_setIfInBounds, List.count_set (by simpa using hlt)]
  have h1 : listed.toList[i]'(by simpa using hlt) = false := by simpa using hi
  rw [h1]
  have : 0 < listed.toList.count false := List.count_pos_iff.2 (by rw [← h1]; exact List.getElem_mem _)
  simp only [beq_self_eq_true, if_true, Bool.true_beq, Bool.false_eq_true, if_false]
  omega
theorem count_zero {listed : Array Bool} (h : ∀ i, i < listed.size → listed[i]? = some true) : listed.toList.count false = 0 := by
  rw [List.count_eq_zero]
  intro hm
  obtain ⟨i, hi, he⟩ := List.mem_iff_getElem.1 hm
  have := h i (by simpa using hi)
  rw [Array.getElem?_eq_getElem (by simpa using hi)] at this
  simp at he
  simp [he] at this
theorem all_listed {nt : Nat} {ow : List Nat} {ops : Array Oper} {done : List Nat} {r : List (Nat × List Nat)} (s : Sta nt ow ops done r) {listed : Array Bool} (hsz : listed.size = ops.size) (hr : Region.ready .any ops listed = []) : ∀ i, i < listed.size → listed[i]? = some true := by
  intro i
  induction i using Nat.strongRecOn with
  | _ i ih =>
    intro hi
    cases hl : listed[i]? with
    | none => rw [Array.getElem?_eq_none_iff] at hl; omega
    | some b =>
      cases b with
      | true => rfl
      | false =>
        exfalso
        have ho : ∃ o, ops[i]? = some o := ⟨ops[i]'(by omega), Array.getElem?_eq_getElem _⟩
        obtain ⟨o, ho⟩ := ho
        have : i ∈ Region.ready .any ops listed := mem_ready'.2 ⟨unlisted.2 hl, o, ho, fun p hp => islisted.2 (ih p (s.less i o ho p hp) (by have := s.less i o ho p hp; omega))⟩
        rw [hr] at this
        cases this

section
variable {P : Program} {tt : TTab} {nt : Nat} {ow : List Nat} {ops : Array Oper}
def DO (P : Program) (tt : TTab) (ow : List Nat) (nt : Nat) (ops : Array Oper) (done : List Nat) (r : List (Nat × List Nat)) (E : Env) (st : St) (K : Env → St → Prop) : Prop :=
  ∀ listed a w G Q, listed.size = ops.size → (∀ i, listed[i]? = some true → i ∈ done) → (∀ k ∈ done, listed[k]? = some false → Pnd tt ow nt ops E st k) →
    Inv G st w → ARep G nt (hide (hs ops listed done) E) a → Goes G nt K (Q .normal) → wpAny P .any ops Q (listed.toList.count false) listed a w
theorem want_ok {G : Gh} {F : Env} {a : Act} {o : Oper} {b : Bool} (ha : ARep G nt F a) (h : wantF ops o F = some b) : Region.wanted o (yielded ops a.tmps) = b := by
  unfold wantF at h
  unfold Region.wanted
  split at h
  · rename_i hg
    rw [hg]
    injection h
  · rename_i j want hg
    rw [hg]
    simp only
    split at h
    · rename_i d hd
      split at h
      · rename_i x hc
        rw [eg_eq] at hc
        obtain ⟨v, hv1, hv2⟩ := ha.get d _ hc
        rw [gdOf_eq] at hd
        have := gval_ok h hv2
        simp only [yielded, hd, Option.bind_some, hv1]
        rw [← this]
        cases v <;> rfl
      · cases h
    · cases h
theorem wpOp_of (ht : TT P tt) {G : Gh} {F : Env} {st : St} {a : Act} {w : World} {o : Oper} {i : Nat} {K : Env → St → Prop} {Q : Exit → Act → World → Prop} {next : Act → World → Prop}
    (hi : Inv G st w) (ha : ARep G nt F a) (ho : ops[i]? = some o) (hw : wantF ops o F = some true) (h : pOp P tt ow nt o F st K) (hn : Goes G nt K next) : wpOp P ops Q i next a w := by
  unfold wpOp
  simp only [ho, want_ok ha hw, if_true]
  exact .inl (pOp_ok ht h hi ha hn)
theorem callOf_not {E : Env} {o : Oper} (h : callOf E o.op = none) : isCall o.op = false := by
  unfold callOf at h
  unfold isCall
  split
  · rename_i c ho
    split
    · rename_i f hf
      simp only [ho, hf] at h
      (repeat' split at h) <;> cases h
    · rfl
  · rfl
theorem stepW_wp (ht : TT P tt) {G : Gh} {F F' : Env} {st st' : St} {a : Act} {w : World} {o : Oper} {i : Nat} {Q : Exit → Act → World → Prop} {next : Act → World → Prop}
    (hi : Inv G st w) (ha : ARep G nt F a) (ho : ops[i]? = some o) (h : stepW tt ow nt ops o F st = some (F', st')) (hn : Goes G nt (fun E s => E = F' ∧ s = st') next) : wpOp P ops Q i next a w := by
  unfold stepW at h
  split at h
  · rename_i hw
    split at h
    · exact wpOp_of ht hi ha ho hw (stepF_ok h ⟨rfl, rfl⟩) hn
    · cases h
  · rename_i hw
    cases h
    unfold wpOp
    simp only [ho, want_ok ha hw, Bool.false_eq_true, if_false]
    exact hn _ _ _ _ _ (.refl _) hi (ha.put (.val undef) o.dst) ⟨rfl, rfl⟩
  · cases h
theorem Pnd.put (s : ∀ k o i o' d, ops[k]? = some o → ops[i]? = some o' → o'.dst = some d → (d ∈ o.looksAt ops → i ∈ predsOf o) ∧ (i ≠ k → o.dst ≠ some d)) {E : Env} {st : St} {k i : Nat} {o : Oper} {x : PV} (h : Pnd tt ow nt ops E st k) (ho : ops[i]? = some o) (hne : i ≠ k) (hnp : ∀ ok, ops[k]? = some ok → i ∉ predsOf ok) :
    Pnd tt ow nt ops (put nt o.dst E x) st k := by
  obtain ⟨ok, y, h1, h2, h3⟩ := h
  have hl : ∀ t ∈ ok.looksAt ops, eg (Go.Proofs.YtpepmfhemjeocaaGreatDoor.put nt o.dst E x) t = eg E t := by
    intro t ht
    rw [eg_put, if_neg]
    rintro ⟨h4, _⟩
    exact hnp ok h1 ((s k ok i o t h1 ho h4).1 ht)
  obtain ⟨z, e1, e2⟩ := stepW_congr hl h2
  refine ⟨ok, z, h1, e2, fun t => ?_⟩
  rw [e1] at h3
  have := h3 t
  rw [eg_put] at this ⊢
  split
  · rename_i hd
    rw [if_pos hd] at this
    rw [this, eg_put, if_neg]
    rintro ⟨h4, _⟩
    exact (s k ok i o t h1 ho h4).2 hne hd.1
  · rfl
theorem Pnd.pure {E : Env} {st st' : St} {k : Nat} (h : Pnd tt ow nt ops E st k) (hp : ∀ ok, ops[k]? = some ok → pureO ow ok = true) : Pnd tt ow nt ops E st' k := by
  obtain ⟨ok, y, h1, h2, h3⟩ := h
  exact ⟨ok, y, h1, (stepW_pure (hp ok h1) h2 st').2, h3⟩
/-- What an effect comes to. -/
def EffS (P : Program) (tt : TTab) (ow : List Nat) (nt : Nat) (ops : Array Oper) (done : List Nat) (e : Nat) (chk : List Nat) (r : List (Nat × List Nat)) (E : Env) (st : St) (K : Env → St → Prop) : Prop :=
  ∃ o, ops[e]? = some o ∧ isEff ow o = true ∧ ∀ F, (∀ t ∈ o.looksAt ops, eg F t = eg E t) → wantF ops o F = some true ∧
    pOp P tt ow nt o F st fun F' st' => ∃ x, F' = put nt o.dst F x ∧ (∀ k ∈ chk, Pnd tt ow nt ops (put nt o.dst E x) st' k) ∧ DO P tt ow nt ops (e :: done) r (put nt o.dst E x) st' K
theorem DO.core (ht : TT P tt) {done : List Nat} {r : List (Nat × List Nat)} {E : Env} {st : St} {K : Env → St → Prop} (s : Sta nt ow ops done r) (hend : r = [] → K E st)
    (heff : ∀ e chk r', r = (e, chk) :: r' → EffS P tt ow nt ops done e chk r' E st K) : DO P tt ow nt ops done r E st K := by
  intro listed a w G Q hsz hsub hpd hi ha hq
  generalize hn : listed.toList.count false = n
  have key : ∀ listed : Array Bool, listed.size = ops.size → (∀ i, listed[i]? = some true → i ∈ done) → (∀ i, i < listed.size → listed[i]? = some true) → r = [] := by
    intro listed hsz hsub hall
    cases hr : r with
    | nil => rfl
    | cons p r' =>
      obtain ⟨e, chk⟩ := p
      subst hr
      obtain ⟨o, ho, hnd, _⟩ := s.next.2
      exact absurd (hsub e (hall e (by have := lt_size ho; omega))) hnd
  induction n generalizing listed a w G with
  | zero =>
    have hall : ∀ i, i < listed.size → listed[i]? = some true := by
      intro i hlt
      cases hl : listed[i]? with
      | none => rw [Array.getElem?_eq_none_iff] at hl; omega
      | some b =>
        cases b with
        | true => rfl
        | false => have := count_set hl; omega
    refine ⟨?_, ?_⟩
    · cases hr : Region.ready .any ops listed with
      | nil => rfl
      | cons j js =>
        have hj : j ∈ Region.ready .any ops listed := by rw [hr]; simp
        obtain ⟨h1, _⟩ := mem_ready'.1 hj
        rw [unlisted] at h1
        rw [hall j (Array.getElem?_eq_some_iff.1 h1).1] at h1
        cases h1
    · refine hq G E st a w (.refl G) hi (ha.of_get fun t x e => ?_) (hend (key listed hsz hsub hall))
      rw [eg_hide, if_neg]
      · exact e
      · intro hm
        obtain ⟨k, _, hk, _⟩ := mem_hs.1 hm
        rw [unlisted] at hk
        rw [hall k (Array.getElem?_eq_some_iff.1 hk).1] at hk
        cases hk
  | succ n ih =>
    refine ⟨fun hr => ?_, fun i hready => ?_⟩
    · have := count_zero (all_listed s hsz hr)
      omega
    obtain ⟨hun, o, ho, hpr⟩ := mem_ready'.1 hready
    have hun' := unlisted.1 hun
    have hlook : ∀ t ∈ o.looksAt ops, eg (hide (hs ops listed done) E) t = eg E t := by
      intro t hto
      rw [eg_hide, if_neg]
      intro hm
      obtain ⟨k, hk, hku, ok, hok, hd⟩ := mem_hs.1 hm
      have := hpr k ((s.ssa i o k ok t ho hok hd).1 hto)
      rw [islisted] at this
      rw [unlisted] at hku
      rw [this] at hku
      cases hku
    have hcount : (listed.setIfInBounds i true).toList.count false = n := by have := count_set hun'; omega
    have hget : ∀ j, (listed.setIfInBounds i true)[j]? = if j = i then some true else listed[j]? := by
      intro j
      rw [Array.getElem?_setIfInBounds]
      by_cases h : i = j
      · subst h
        have := (Array.getElem?_eq_some_iff.1 hun').1
        simp [this]
      · rw [if_neg h, if_neg (Ne.symm h)]
    by_cases hid : i ∈ done
    · obtain ⟨o', x, ho', hst, hsame⟩ := hpd i hid hun'
      rw [ho] at ho'
      cases ho'
      obtain ⟨y, e1, e2⟩ := stepW_congr hlook hst
      rw [e1] at hsame
      refine stepW_wp ht hi ha ho e2 ?_
      rintro G' _ _ a' w' hle hi' ha' ⟨rfl, rfl⟩
      refine ih (listed.setIfInBounds i true) a' w' G' (by simpa using hsz) ?_ ?_ hi' ?_ ?_ hcount
      · intro j hj
        rw [hget] at hj
        split at hj
        · rename_i h; rw [h]; exact hid
        · exact hsub j hj
      · intro k hk hku
        rw [hget] at hku
        split at hku
        · cases hku
        · exact hpd k hk hku
      · refine ha'.of_get fun t z hz => ?_
        rw [eg_hide] at hz
        split at hz
        · cases hz
        · rename_i hnm
          rw [eg_put]
          split
          · rename_i hd
            have := hsame t
            rw [eg_put, if_pos hd] at this
            rw [this]
            exact hz
          · rename_i hd
            rw [eg_hide, if_neg]
            · exact hz
            · intro hm
              obtain ⟨k, hk, hku, ok, hok, hdk⟩ := mem_hs.1 hm
              by_cases hki : k = i
              · subst hki
                rw [ho] at hok
                cases hok
                exact hd ⟨hdk, s.dst k o t ho hdk⟩
              · exact hnm (mem_hs.2 ⟨k, hk, by rw [unlisted] at hku ⊢; rw [hget, if_neg hki]; exact hku, ok, hok, hdk⟩)
      · exact fun G2 env2 st2 a2 w2 m1 m2 m3 m4 => hq G2 env2 st2 a2 w2 (hle.trans m1) m2 m3 m4
    · rcases s.all i (lt_size ho) with h | h
      · exact absurd h hid
      cases hr : r with
      | nil => rw [hr] at h; simp at h
      | cons p r' =>
        obtain ⟨e, chk⟩ := p
        obtain ⟨oe, hoe, heffe, hstep⟩ := heff e chk r' hr
        subst hr
        obtain ⟨s', oe', hoe', hnd, hpe, hblk⟩ := s.next
        rw [hoe] at hoe'
        cases hoe'
        obtain ⟨hblk, hchk⟩ := hblk heffe
        have hie : i = e := by
          simp only [List.map_cons, List.mem_cons] at h
          rcases h with h | h
          · exact h
          · exfalso
            obtain ⟨p, hp, hpp⟩ := hblk i h o ho
            have hpd' := hsub p (islisted.1 (hpr p hp))
            rcases hpp with rfl | hpp
            · exact hnd hpd'
            · exact ordOK_not s'.ord p hpp (by simp [hpd'])
        subst hie
        rw [ho] at hoe
        cases hoe
        obtain ⟨hwant, hop⟩ := hstep _ hlook
        refine wpOp_of ht hi ha ho hwant hop ?_
        rintro G' _ st' a' w' hle hi' ha' ⟨x, rfl, hck, hdo⟩
        rw [← hcount]
        refine hdo (listed.setIfInBounds i true) a' w' G' Q (by simpa using hsz) ?_ ?_ hi' ?_ ?_
        · intro j hj
          rw [hget] at hj
          split at hj
          · rename_i h; rw [h]; simp
          · simp [hsub j hj]
        · intro k hk hku
          rw [hget] at hku
          split at hku
          · cases hku
          · rename_i hki
            simp only [List.mem_cons] at hk
            rcases hk with hk | hk
            · exact absurd hk hki
            · rcases hchk k hk with h1 | h1 | h1
              · have := hpr k h1
                rw [islisted] at this
                rw [this] at hku
                cases hku
              · exact hck k h1
              · refine ((hpd k hk hku).put s.ssa ho (Ne.symm hki) ?_).pure h1
                intro ok hok hm
                exact hnd (s.pre k hk ok hok i hm)
        · refine ha'.of_get fun t z hz => ?_
          rw [eg_hide] at hz
          split at hz
          · cases hz
          · rename_i hnm
            rw [eg_put] at hz ⊢
            split
            · rename_i hd
              rw [if_pos hd] at hz
              exact hz
            · rename_i hd
              rw [if_neg hd] at hz
              rw [eg_hide, if_neg]
              · exact hz
              · intro hm
                obtain ⟨k, hk, hku, ok, hok, hdk⟩ := mem_hs.1 hm
                have hki : k ≠ i := by rintro rfl; exact hnd hk
                exact hnm (mem_hs.2 ⟨k, by simp [hk], by rw [unlisted] at hku ⊢; rw [hget, if_neg hki]; exact hku, ok, hok, hdk⟩)
        · exact fun G2 env2 st2 a2 w2 m1 m2 m3 m4 => hq G2 env2 st2 a2 w2 (hle.trans m1) m2 m3 m4
theorem DO.read {done : List Nat} {i : Nat} {chk : List Nat} {r : List (Nat × List Nat)} {E : Env} {st : St} {K : Env → St → Prop} {o : Oper} {x : PV} (s : Sta nt ow ops done ((i, chk) :: r)) (ho : ops[i]? = some o)
    (hst : stepW tt ow nt ops o E st = some (put nt o.dst E x, st)) (h : DO P tt ow nt ops (i :: done) r (put nt o.dst E x) st K) : DO P tt ow nt ops done ((i, chk) :: r) E st K := by
  intro listed a w G Q hsz hsub hpd hi ha hq
  obtain ⟨s', o', ho', hnd, hpe, _⟩ := s.next
  rw [ho] at ho'
  cases ho'
  have hun : listed[i]? = some false := by
    cases hl : listed[i]? with
    | none => rw [Array.getElem?_eq_none_iff] at hl; have := lt_size ho; omega
    | some b =>
      cases b with
      | true => exact absurd (hsub i hl) hnd
      | false => rfl
  refine h listed a w G Q hsz (fun j hj => by simp [hsub j hj]) ?_ hi ?_ hq
  · intro k hk hku
    simp only [List.mem_cons] at hk
    by_cases hki : k = i
    · subst hki
      have hl : ∀ t ∈ o.looksAt ops, eg (put nt o.dst E x) t = eg E t := by
        intro t hto
        rw [eg_put, if_neg]
        rintro ⟨h4, _⟩
        have := s.less k o ho k ((s.ssa k o k o t ho ho h4).1 hto)
        omega
      obtain ⟨y, e1, e2⟩ := stepW_congr hl hst
      refine ⟨o, y, ho, e2, fun t => ?_⟩
      have e3 : eg (put nt o.dst E x) t = eg (put nt o.dst E y) t := congrArg (fun E => eg E t) e1
      rw [eg_put] at e3 ⊢
      by_cases hd : o.dst = some t ∧ t < nt
      · rw [if_pos hd] at e3 ⊢
        rw [eg_put, if_pos hd] at e3 ⊢
        exact e3.symm
      · rw [if_neg hd]
    · refine (hpd k (hk.resolve_left hki) hku).put s.ssa ho (Ne.symm hki) ?_
      intro ok hok hm
      exact hnd (s.pre k (hk.resolve_left hki) ok hok i hm)
  · refine ha.of_get fun t z hz => ?_
    rw [eg_hide] at hz ⊢
    split at hz
    · cases hz
    · rename_i hnm
      rw [if_neg]
      · rw [eg_put, if_neg] at hz
        · exact hz
        · rintro ⟨h4, _⟩
          exact hnm (mem_hs.2 ⟨i, by simp, unlisted.2 hun, o, ho, h4⟩)
      · intro hm
        obtain ⟨k, hk, hku⟩ := mem_hs.1 hm
        exact hnm (mem_hs.2 ⟨k, by simp [hk], hku⟩)
def chkF (tt : TTab) (nt : Nat) (ops : Array Oper) (E : Env) (st : St) : List Nat → Prop
  | [] => True
  | k :: ks => (match ops.toList[k]? with
    | some ⟨some d, .load T a, _, _, _, none⟩ => match vl E a with
      | some p => match tt T with
        | some y => match ldPV y st p with
          | some x => eg E d = some x
          | none => False
        | none => False
      | none => False
    | _ => False) ∧ chkF tt nt ops E st ks
theorem chkF_ok {E : Env} {st : St} (hnt : ∀ (k : Nat) (o : Oper) (d : Tmp), ops[k]? = some o → o.dst = some d → d < nt) : ∀ {l : List Nat}, chkF tt nt ops E st l → ∀ k ∈ l, Pnd tt ow nt ops E st k
  | [], _, k, hk => by simp at hk
  | j :: l, h, k, hk => by
    simp only [List.mem_cons] at hk
    unfold chkF at h
    rcases hk with rfl | hk
    · have h1 := h.1
      split at h1
      · rename_i d T a ty pos af ho
        rw [Array.getElem?_toList] at ho
        split at h1
        · rename_i p hp
          split at h1
          · rename_i y hy
            split at h1
            · rename_i x hx
              refine ⟨_, x, ho, ?_, fun t => ?_⟩
              · simp only [stepW, wantF, callOf, stepF, hp, hy, hx]
              · rw [eg_put]
                split
                · rename_i hd
                  obtain ⟨hd, _⟩ := hd
                  injection hd with hd
                  rw [← hd, h1]
                · rfl
            · exact h1.elim
          · exact h1.elim
        · exact h1.elim
      · exact h1.elim
    · exact chkF_ok hnt h.2 k hk
def GO (P : Program) (tt : TTab) (ow : List Nat) (nt : Nat) (ops : Array Oper) (done : List Nat) (r : List (Nat × List Nat)) (E : Env) (st : St) (K : Env → St → Prop) : Prop := Sta nt ow ops done r → DO P tt ow nt ops done r E st K
def drawH (P : Program) (tt : TTab) (ow : List Nat) (nt : Nat) (ops : Array Oper) : List Nat → List (Nat × List Nat) → Env → St → (Env → St → Prop) → Prop
  | _, [], E, st, K => K E st
  | done, (i, chk) :: r, E, st, K => match ops.toList[i]? with
    | some o => match wantF ops o E with
      | some true => match callOf E o.op with
        | some (some (f, args)) => PC P f args st fun x st' => chkF tt nt ops (put nt o.dst E x) st' chk ∧ GO P tt ow nt ops (i :: done) r (put nt o.dst E x) st' K
        | some none => False
        | none => match stepF tt ow nt o E st with
          | some (E', st') => match isEff ow o with
            | true => chkF tt nt ops E' st' chk ∧ drawH P tt ow nt ops (i :: done) r E' st' K
            | false => drawH P tt ow nt ops (i :: done) r E' st' K
          | none => False
      | some false => drawH P tt ow nt ops (i :: done) r (put nt o.dst E (.val undef)) st K
      | none => False
    | none => False
theorem callEff {E : Env} {o : Oper} {z} (h : callOf E o.op = some z) : isEff ow o = true := by
  unfold callOf at h
  split at h
  · rename_i c ho
    split at h
    · rename_i f hf
      simp only [isEff, pureO, isLoad, ho, hf]
      rfl
    · cases h
  · cases h
theorem GO.go (ht : TT P tt) : ∀ {r : List (Nat × List Nat)} {done : List Nat} {E : Env} {st : St} {K : Env → St → Prop}, drawH P tt ow nt ops done r E st K → GO P tt ow nt ops done r E st K
  | [], done, E, st, K, h, s => DO.core ht s (fun _ => h) (by intro e chk r' he; cases he)
  | (i, chk) :: r, done, E, st, K, h, s => by
    unfold drawH at h
    split at h
    · rename_i o ho
      rw [Array.getElem?_toList] at ho
      split at h
      · rename_i hw
        split at h
        · rename_i f args hc
          refine DO.core ht s (by intro e; cases e) ?_
          rintro _ _ _ ⟨⟩
          refine ⟨o, ho, callEff hc, fun F hF => ⟨by rw [wantF_congr hF]; exact hw, ?_⟩⟩
          rw [← callOf_congr (looks_vl hF)] at hc
          unfold callOf at hc
          split at hc
          · rename_i c hoc
            split at hc
            · rename_i g hg
              split at hc
              · rename_i fn fs cs hf
                split at hc
                · rename_i ags has
                  cases hc
                  simp only [pOp, hoc, hg]
                  exact ⟨f, fs, cs, ags, by rw [← vl_eq]; exact hf, by rw [← vls_eq]; exact has, h.mono fun x st' hx => ⟨x, rfl, chkF_ok s.dst hx.1, hx.2 s.next.1⟩⟩
                · cases hc
              · cases hc
            · cases hc
          · cases hc
        · exact h.elim
        · rename_i hc
          split at h
          · rename_i E' st' hst
            split at h
            · rename_i he
              refine DO.core ht s (by intro e; cases e) ?_
              rintro _ _ _ ⟨⟩
              refine ⟨o, ho, he, fun F hF => ⟨by rw [wantF_congr hF]; exact hw, ?_⟩⟩
              obtain ⟨x, rfl, e2⟩ := stepF_congr (looks_vl hF) hst
              exact stepF_ok e2 ⟨x, rfl, chkF_ok s.dst h.1, GO.go ht h.2 s.next.1⟩
            · rename_i he
              obtain ⟨x, rfl, e2⟩ := stepF_congr (fun _ _ => rfl) hst
              have hsw : stepW tt ow nt ops o E st = some (put nt o.dst E x, st') := by
                unfold stepW
                (try simp only [hw, hc])
                exact hst
              have hss : st' = st := by
                simp only [isEff, Bool.not_eq_false', Bool.or_eq_true] at he
                rcases he with he | he
                · exact (stepW_pure he hsw st).1
                · exact stepW_load he hsw
              subst hss
              exact DO.read s ho hsw (GO.go ht h s.next.1)
          · exact h.elim
      · rename_i hw
        refine DO.read s ho ?_ (GO.go ht h s.next.1)
        unfold stepW
        rw [hw]
      · exact h.elim
    · exact h.elim
theorem Inv.drew {G : Gh} {st : St} {w : World} (h : Inv G st w) (n : Nat) : Inv G st { w with drawn := n } :=
  ⟨⟨h.kept.os, h.kept.tape, h.kept.output, h.kept.size, h.kept.block⟩, h.dat, h.rlen, h.box, h.inj, h.own, h.apart, h.fresh, h.laid⟩
theorem PW.draw (ht : TT P tt) (hm : P.follows .mixedOrders = true) (ow : List Nat) {id : Nat} {Q : Exit → Env → St → Prop} {env : Env} {st : St} (ord : List (Nat × List Nat)) (hok : drawOK nt ow ops ord = true)
    (h : ∀ K : Env → St → Prop, (∀ env st, Q .normal env st → K env st) → drawH P tt ow nt ops [] ord env st K) : PW P nt (.region id ops true) Q env st := by
  intro G a w hi ha
  refine wp_region_any hm ?_
  have h1 := GO.go ht (h _ fun _ _ h => h) (Sta.of hok) (Array.replicate ops.size false) a _ G (PostE G nt Q) (by simp) (by
    intro i hi
    rw [Array.getElem?_replicate] at hi
    split at hi <;> cases hi) (by simp) (hi.drew (w.drawn + 1)) (ha.of_get fun t x e => by
    rw [eg_hide] at e
    split at e
    · cases e
    · exact e) fun G' env' st' a' w' h1 h2 h3 h4 => ⟨G', env', st', h1, h2, h3, h4⟩
  have hc : (Array.replicate ops.size false).toList.count false = ops.size := by simp
  rw [hc] at h1
  exact h1
/-- A region in any order, and what stands behind it under a name. -/
theorem PW.draws (ht : TT P tt) (hm : P.follows .mixedOrders = true) (ow : List Nat) {id : Nat} {y : Code} {Q : Exit → Env → St → Prop} {env : Env} {st : St} (ord : List (Nat × List Nat)) (hok : drawOK nt ow ops ord = true)
    (h : ∀ K : Env → St → Prop, (∀ env st, PW P nt y Q env st → K env st) → drawH P tt ow nt ops [] ord env st K) : PW P nt (.seq (.region id ops true) y) Q env st :=
  PW.seq_k fun K hK => PW.draw ht hm ow ord hok fun K' hK' => h K' fun env st hp => hK' env st (hK env st hp)
end
end Go.Proofs.YtpepmfhemjeocaaGreatDoor
end
section
/- A scope without a jump back. -/
set_option linter.unusedVariables false
set_option linter.unusedSimpArgs false
namespace Go.Proofs.YtpepmfhemjeocaaGreatDoor
def NoGoto (Q : Exit → Env → St → Prop) : Exit → Env → St → Prop
  | .goto _, _, _ => False
  | e, env, st => Q e env st
theorem PW.scope {P : Program} {nt : Nat} {Q : Exit → Env → St → Prop} {env : Env} {st : St} {c : Code} (h : PW P nt c (NoGoto Q) env st) : PW P nt (.scope c) Q env st := by
  intro G a w hi ha
  refine wp_scope_straight (wp_mono (h G a w hi ha) fun e a w p => ?_)
  obtain ⟨G', env', st', h1, h2, h3, h4⟩ := p
  cases e <;> first | exact h4.elim | exact ⟨G', env', st', h1, h2, h3, h4⟩
/-- One more object, with nothing in it: what was nil may be taken for it (Weak.nil). -/
theorem PW.adopt {P : Program} {nt : Nat} {Q : Exit → Env → St → Prop} {env : Env} {st : St} {c : Code} (h : PW P nt c Q env { st with len := st.len ++ [0] }) : PW P nt c Q env st :=
  fun G a w hi ha => h G a w hi.addLen ha
end Go.Proofs.YtpepmfhemjeocaaGreatDoor
end
section
/- The rules as one set of rewrites. -/
set_option linter.unusedVariables false
set_option linter.unusedSimpArgs false
namespace Go.Proofs.YtpepmfhemjeocaaGreatDoor
attribute [go_sem ↓] drawH chkF wantF isEff pureO isLoad runF callOf stepF
attribute [go_sem] Bool.or_false Bool.or_true Bool.false_or Bool.true_or Holds gval_undef gval_bool put vl vls vlo vlParts eg ofC argsEnv owns fBin pNil fCut fField fldOf ldPV stPV splice fillPV dense cells_int isAgg_int isCell_int cells_bool isAgg_bool isCell_bool cells_str isAgg_str isCell_str cells_list isAgg_list isCell_list cells_ref isAgg_ref isCell_ref cells_elem isAgg_elem isCell_elem cells_agg isAgg_agg isCell_agg cells_tup isAgg_tup isCell_tup cells_clo isAgg_clo isCell_clo cells_val isAgg_val isCell_val gdOf resAll resOne resPV cond_true cond_false beq_self_eq_true List.getElem?_cons_zero List.getElem?_cons_succ List.getElem?_nil List.length_cons List.length_nil List.length_append List.length_map List.length_set List.set_cons_zero List.set_cons_succ List.take_succ_cons List.take_zero List.drop_succ_cons List.drop_zero List.take_nil List.drop_nil List.cons_append List.nil_append List.append_nil List.map_cons List.map_nil List.all_cons List.all_nil List.contains_cons List.contains_nil List.getElem?_map List.getElem?_append List.toList_toArray beq_true beq_false Option.some.injEq Option.bind_some Option.map_some Option.map_none exists_eq_left' exists_eq' exists_eq exists_eq_left exists_and_left exists_and_right and_true true_and if_true if_false ite_true ite_false Bool.and_true Bool.true_and Bool.and_self Bool.not_true Bool.not_false Bool.false_eq_true decide_true decide_false eq_self PV.int.injEq PV.list.injEq PV.clo.injEq PV.agg.injEq PV.str.injEq PV.bool.injEq PV.ref.injEq TK.slice.injEq Fn.func.injEq and_assoc forall_eq forall_const true_implies Nat.le_refl Nat.zero_add Nat.add_zero Int.toNat_zero Int.toNat_one ne_eq not_false_eq_true not_true_eq_false Nat.lt_irrefl and_self Int.le_refl List.mem_cons List.not_mem_nil or_false forall_eq_or_imp Nat.succ_ne_self
attribute [go_sem] fNil fBool
end Go.Proofs.YtpepmfhemjeocaaGreatDoor
end
section
/- Tokens, faults: the data of the lexer and the parser. -/
set_option linter.unusedVariables false
set_option linter.unusedSimpArgs false
namespace Go.Proofs.YtpepmfhemjeocaaGreatDoor
open Go

abbrev Str := List UInt8
theorem mixed : Tryz.prog.follows .mixedOrders = true := by kernel_rfl
structure Tok where
  kind : Int
  text : List UInt8
  num : Int
  at_ : Int
def Tok.z (t : Tok) : Tok := { t with at_ := 0 }
def tokPV (t : Tok) : PV := .agg [.int .i64 t.kind, .str t.text, .int .i64 t.num, .int .i64 t.at_]
theorem tok_clean (n m : Nat) (t : Tok) : PV.clean n m (tokPV t) = true := rfl
theorem wrap_nat {n : Nat} (h : n ≤ 4611686018427387904) : IntKind.i64.wrap (n : Int) = (n : Int) := by
  simp only [IntKind.wrap, IntKind.bits, IntKind.signed]
  simp
  omega
def tok0 : Tok := ⟨0, [], 0, 0⟩
theorem Weak.tup {xs ys : List PV} (h : Weaks xs ys) : Weak (.tup xs) (.tup ys) := fun G v hr => by
  cases hr with
  | tup _ _ h' => exact .tup _ _ (h.reps h')
theorem Pure.finw {tt : TTab} {rs : List ResultVar} {x : PV} {env : Env} {st : St} {xs : List PV} {e : Exit} (he : e = .ret ∨ e = .normal) (hr : resAll tt env st rs = some xs) (hR : Weak (resPV xs) x) (hx : PV.clean 0 0 x = true) :
    Ends tt rs ⟨[], []⟩ (fun r st' => r = x ∧ st' = ⟨[], []⟩) e env st :=
  ⟨he, xs, x, ⟨[], []⟩, hr, hR, ⟨by simp, by simp, by simp⟩, by simp, by simp, hx, rfl, rfl⟩
theorem res_cell2 {tt : TTab} {env : Env} {st : St} {b b2 : Nat} {t t2 : TypeId} {p p2 x x2 : PV} {y y2 : TyI} (h1 : eget env b = some p) (h2 : tt t = some y) (h3 : ldPV y st p = some x) (h4 : eget env b2 = some p2) (h5 : tt t2 = some y2) (h6 : ldPV y2 st p2 = some x2) :
    resAll tt env st [.cell b t, .cell b2 t2] = some [x, x2] := by
  simp [resAll, resOne, h1, h2, h3, h4, h5, h6]
/-- A fault: its code, its place. -/
structure Ft where
  c : Int
  a : Int
def ftPV (f : Ft) : PV := .agg [.int .i64 f.c, .int .i64 f.a]
def toksPV (l : List Tok) : PV := .list 4 (l.map tokPV) .no
theorem toks_clean (l : List Tok) : PV.clean 0 0 (toksPV l) = true := by
  simp only [toksPV, PV.clean, clean_map (tok_clean 0 0)]; rfl
/-! ### Values, expressions -/
structure Vl where
  k : Int
  n : Int
  t : Str
inductive Ex where
  | mk (k o : Int) (t n : Str) (v : Vl) (l : List Ex)
def vC (v : Vl) : List PV := [.int .i64 v.k, .int .i64 v.n, .str v.t]
mutual
def exC : Ex → List PV
  | .mk k o t n v l => [.int .i64 k, .int .i64 o, .str t, .str n, .int .i64 v.k, .int .i64 v.n, .str v.t, .list 8 (exPVs l) .no]
def exPVs : List Ex → List PV
  | [] => []
  | e :: es => .agg (exC e) :: exPVs es
end
def exPV (e : Ex) : PV := .agg (exC e)
theorem agg_exC (e : Ex) : PV.agg (exC e) = exPV e := rfl
theorem exPV_cells (e : Ex) : (exPV e).cells = exC e := rfl
theorem exPVs_eq (l : List Ex) : exPVs l = l.map exPV := by
  induction l with
  | nil => rfl
  | cons e l ih => simp only [exPVs, List.map_cons, ih]; rfl
theorem exC_len (e : Ex) : (exC e).length = 8 := by cases e; rfl
theorem exC_all (e : Ex) : (exC e).all PV.isCell = true := by cases e; rfl
theorem exC_take (e : Ex) : (exC e).take 8 = exC e := by cases e; rfl
theorem exC_drop (e : Ex) : (exC e).drop 8 = [] := by cases e; rfl
theorem exPV_isCell (e : Ex) : (exPV e).isCell = false := rfl
mutual
theorem ex_clean : ∀ e : Ex, PVs.clean 0 0 (exC e) = true
  | .mk k o t n v l => by simp [exC, PVs.clean, PV.clean, exs_clean l]
theorem exs_clean : ∀ l : List Ex, PVs.clean 0 0 (exPVs l) = true
  | [] => rfl
  | e :: es => by simp [exPVs, PVs.clean, PV.clean, ex_clean e, exs_clean es]
end
theorem exPV_clean (e : Ex) : PV.clean 0 0 (exPV e) = true := by simp [exPV, PV.clean, ex_clean]
def v0 : Vl := ⟨0, 0, []⟩
def ex0 : Ex := .mk 0 0 [] [] v0 []
theorem ex_weak (k o : Int) (t n : Str) (a b : Int) (c : Str) : Weak (.agg [.int .i64 k, .int .i64 o, .str t, .str n, .int .i64 a, .int .i64 b, .str c, .list 0 [] .nil]) (exPV (.mk k o t n ⟨a, b, c⟩ [])) := by
  refine Weak.agg ?_ ?_
  · simp [exC, exPVs, Weak.nil]
  · intro y hy
    simp only [exC, List.mem_cons, List.not_mem_nil, or_false] at hy
    rcases hy with rfl | rfl | rfl | rfl | rfl | rfl | rfl | rfl <;> rfl
theorem Boxes.refl : ∀ {box : List (List PV)}, (∀ cs ∈ box, ∀ c ∈ cs, c.isCell = true) → Boxes box box
  | [], _ => .nil
  | x :: xs, h => .cons (Weaks.refl x) (h x (by simp)) (Boxes.refl fun cs hc => h cs (by simp [hc]))
end Go.Proofs.YtpepmfhemjeocaaGreatDoor
end
section
/- slices.Index and slices.Contains of texts. -/
set_option linter.unusedVariables false
set_option linter.unusedSimpArgs false
namespace Go.Proofs.YtpepmfhemjeocaaGreatDoor
open Go

def strs (ls : List (List UInt8)) : List PV := ls.map .str
theorem strs_clean (ls : List (List UInt8)) : PVs.clean 0 0 (strs ls) = true := clean_map (fun _ => rfl) ls
/-- Where a text stands first; -1: nowhere. -/
def idxF : List (List UInt8) → List UInt8 → Int
  | [], _ => -1
  | l :: ls, x => if l = x then 0 else if idxF ls x < 0 then -1 else idxF ls x + 1
theorem idx_nil {ls : List (List UInt8)} {x : List UInt8} (h : ∀ (j : Nat) (l : List UInt8), ls[j]? = some l → l ≠ x) : idxF ls x = -1 := by
  induction ls with
  | nil => rfl
  | cons l ls ih =>
    have h0 := h 0 l rfl
    have := ih fun j y e => h (j + 1) y (by simpa using e)
    simp only [idxF, if_neg h0, this]
    rfl
theorem idx_at : ∀ {ls : List (List UInt8)} {x : List UInt8} (k : Nat), ls[k]? = some x → (∀ (j : Nat) (l : List UInt8), j < k → ls[j]? = some l → l ≠ x) → idxF ls x = k
  | [], x, k, h, _ => by simp at h
  | l :: ls, x, 0, h, _ => by simp at h; subst h; simp [idxF]
  | l :: ls, x, k + 1, h, hn => by
    have h0 := hn 0 l (by omega) rfl
    have := idx_at k (by simpa using h) fun j y hj e => hn (j + 1) y (by omega) (by simpa using e)
    simp only [idxF, if_neg h0, this]
    rw [if_neg (by omega)]
    omega

theorem index_pc (ls : List (List UInt8)) (x : List UInt8) (hl : ls.length ≤ 4611686018427387903) :
    Pure Tryz.prog 175 [.list 1 (strs ls) .no, .str x] (.int .i64 (idxF ls x)) := by
  refine PC.intro tab_ok Tryz.func175 rfl (by kernel_rfl) Tryz.ntmps175 (Nat.le_of_ble_eq_true rfl) (rs := _) (congrArg Array.toList Tryz.results175) ?_
  refine PW.go tab_ok [] fun K hK => ?_
  simp only [go_sem, ↓reduceIte, reduceCtorEq, Nat.reduceBEq, Nat.reduceAdd, Nat.reduceMul, Nat.reduceSub, Nat.reduceLT, Nat.reduceLeDiff, Nat.reduceEqDiff]
  (refine hK _ _ ?_; (try clear hK); (try clear K))
  refine PW.seq_k fun K hK => ?_
  refine PW.go tab_ok [] fun K2 hK2 => ?_
  simp only [go_sem, ↓reduceIte, reduceCtorEq, Nat.reduceBEq, Nat.reduceAdd, Nat.reduceMul, Nat.reduceSub, Nat.reduceLT, Nat.reduceLeDiff, Nat.reduceEqDiff]
  refine hK2 _ _ ?_
  clear hK2 K2
  refine PW.block (PW.loop (α := Nat) (fun k => [(8, .int .i64 (k : Int)), (7, .int .i64 (ls.length : Int)), (0, .list 1 (strs ls) .no), (1, .str x)]) (fun _ => ⟨[], []⟩)
    (fun k => k ≤ ls.length ∧ ∀ (j : Nat) (l : List UInt8), j < k → ls[j]? = some l → l ≠ x) (fun k => ls.length - k) 0 ⟨Nat.zero_le _, fun j l h => by omega⟩ ?_ rfl (fun _ _ => ⟨rfl, rfl⟩) ?_)
  · simp [Sub, eget, strs]
  rintro k ⟨hk, hno⟩
  refine PW.go tab_ok [] fun K hK => ?_
  simp only [go_sem, ↓reduceIte, reduceCtorEq, Nat.reduceBEq, Nat.reduceAdd, Nat.reduceMul, Nat.reduceSub, Nat.reduceLT, Nat.reduceLeDiff, Nat.reduceEqDiff]
  (refine hK _ _ ?_; (try clear hK); (try clear K))
  refine PW.seq_k fun K2 hK2 => ?_
  refine PW.cond_split (b := decide ((k : Int) < (ls.length : Int))) rfl ?_ ?_ <;> intro hc
  · have hlt : k < ls.length := by simpa using hc
    refine PW.skip (hK2 _ _ ?_)
    clear hK2 K2
    refine PW.seq_k fun K3 hK3 => PW.block ?_
    refine PW.go tab_ok [] fun K hK => ?_
    simp only [go_sem, ↓reduceIte, reduceCtorEq, Nat.reduceBEq, Nat.reduceAdd, Nat.reduceMul, Nat.reduceSub, Nat.reduceLT, Nat.reduceLeDiff, Nat.reduceEqDiff]
    (refine hK _ _ ?_; (try clear hK); (try clear K))
    have hget : (strs ls)[((k : Int)).toNat]? = some (.str ls[k]) := by simp [strs, hlt]
    have h0 : (0 : Int) ≤ (k : Int) := by omega
    refine PW.go tab_ok [] fun K hK => ?_
    simp only [hget, h0, go_sem, ↓reduceIte, reduceCtorEq, Nat.reduceBEq, Nat.reduceAdd, Nat.reduceMul, Nat.reduceSub, Nat.reduceLT, Nat.reduceLeDiff, Nat.reduceEqDiff]
    (refine hK _ _ ?_; (try clear hK); (try clear K))
    refine PW.cond_split (b := x == ls[k]) rfl ?_ ?_ <;> intro hc2
    · have he : ls[k] = x := by simpa using (beq_iff_eq.1 hc2).symm
      refine PW.go tab_ok [] fun K hK => ?_
      simp only [go_sem, ↓reduceIte, reduceCtorEq, Nat.reduceBEq, Nat.reduceAdd, Nat.reduceMul, Nat.reduceSub, Nat.reduceLT, Nat.reduceLeDiff, Nat.reduceEqDiff]
      (refine hK _ _ ?_; (try clear hK); (try clear K))
      exact PW.ret (Pure.ret rfl (by rw [idx_at k (by rw [List.getElem?_eq_getElem hlt, he]) hno]; rfl) rfl)
    · have he : ls[k] ≠ x := fun e => by rw [e] at hc2; simp at hc2
      refine PW.skip (hK3 _ _ ?_)
      refine PW.goL tab_ok [] fun K hK => ?_
      simp only [go_sem, ↓reduceIte, reduceCtorEq, Nat.reduceBEq, Nat.reduceAdd, Nat.reduceMul, Nat.reduceSub, Nat.reduceLT, Nat.reduceLeDiff, Nat.reduceEqDiff]
      (refine hK _ _ ?_; (try clear hK); (try clear K))
      refine ⟨k + 1, ⟨by omega, ?_⟩, by omega, ?_, ⟨by simp, rfl, by simp⟩, by simp [Env.clean, PV.clean, strs_clean]⟩
      · intro j l hj e
        rcases Nat.lt_or_ge j k with h | h
        · exact hno j l h e
        · have : j = k := by omega
          subst this
          rw [List.getElem?_eq_getElem hlt] at e
          injection e with e
          rw [← e]; exact he
      · have hw : IntKind.i64.wrap ((k : Int) + 1) = ((k + 1 : Nat) : Int) := by
          rw [show (k : Int) + 1 = ((k + 1 : Nat) : Int) from by omega]
          exact wrap_nat (by omega)
        simp [Sub, eget, hw]
  · have hge : k = ls.length := by simp at hc; omega
    subst hge
    refine PW.exit (hK _ _ ?_)
    clear hK hK2 K2 K
    refine PW.go tab_ok [] fun K hK => ?_
    simp only [go_sem, ↓reduceIte, reduceCtorEq, Nat.reduceBEq, Nat.reduceAdd, Nat.reduceMul, Nat.reduceSub, Nat.reduceLT, Nat.reduceLeDiff, Nat.reduceEqDiff]
    (refine hK _ _ ?_; (try clear hK); (try clear K))
    refine PW.ret (Pure.ret rfl ?_ rfl)
    rw [idx_nil fun j l e => hno j l (by have := (List.getElem?_eq_some_iff.1 e).1; exact this) e]
    rfl
theorem contains_pc (ls : List (List UInt8)) (x : List UInt8) (hl : ls.length ≤ 4611686018427387903) :
    Pure Tryz.prog 146 [.list 1 (strs ls) .no, .str x] (.bool (decide (idxF ls x ≥ 0))) := by
  refine PC.intro tab_ok Tryz.func146 rfl (by kernel_rfl) Tryz.ntmps146 (Nat.le_of_ble_eq_true rfl) (rs := _) (congrArg Array.toList Tryz.results146) ?_
  refine PW.go tab_ok [] fun K hK => ?_
  simp only [go_sem, ↓reduceIte, reduceCtorEq, Nat.reduceBEq, Nat.reduceAdd, Nat.reduceMul, Nat.reduceSub, Nat.reduceLT, Nat.reduceLeDiff, Nat.reduceEqDiff]
  (refine hK _ _ ?_; (try clear hK); (try clear K))
  refine PW.go tab_ok [] fun K hK => ?_
  simp only [go_sem, ↓reduceIte, reduceCtorEq, Nat.reduceBEq, Nat.reduceAdd, Nat.reduceMul, Nat.reduceSub, Nat.reduceLT, Nat.reduceLeDiff, Nat.reduceEqDiff]
  refine (index_pc ls x hl).use (Weaks.refl _) (by simp [PVs.clean, PV.clean, strs_clean]) rfl ?_
  refine PO.go tab_ok [] ?_
  simp only [go_sem, ↓reduceIte, reduceCtorEq, Nat.reduceBEq, Nat.reduceAdd, Nat.reduceMul, Nat.reduceSub, Nat.reduceLT, Nat.reduceLeDiff, Nat.reduceEqDiff]
  (refine hK _ _ ?_; (try clear hK); (try clear K))
  exact PW.ret (Pure.ret rfl rfl rfl)
end Go.Proofs.YtpepmfhemjeocaaGreatDoor
end
section
/- The lexer: kinds of bytes, rows of bytes. -/
set_option linter.unusedVariables false
set_option linter.unusedSimpArgs false
namespace Go.Proofs.YtpepmfhemjeocaaGreatDoor
open Go

def bPV (c : UInt8) : PV := .int .u8 (c.toNat : Int)
def firstB (c : UInt8) : Bool := decide ((c.toNat : Int) ≥ 97) && decide ((c.toNat : Int) ≤ 122) || ((c.toNat : Int) == 95)
def greatB (c : UInt8) : Bool := decide ((c.toNat : Int) ≥ 65) && decide ((c.toNat : Int) ≤ 90)
def digitB (c : UInt8) : Bool := decide ((c.toNat : Int) ≥ 48) && decide ((c.toNat : Int) ≤ 57)
def smallB (c : UInt8) : Bool := firstB c || digitB c
def lineB (c : UInt8) : Bool := (c.toNat : Int) != 10
/-- A test of a byte. -/
def Bt (g : FuncId) (p : UInt8 → Bool) : Prop := ∀ c, Pure Tryz.prog g [bPV c] (.bool (p c))

theorem great_pc : Bt 93 greatB := by
  intro c
  refine PC.intro tab_ok Tryz.func93 rfl (by kernel_rfl) Tryz.ntmps93 (Nat.le_of_ble_eq_true rfl) (rs := _) (congrArg Array.toList Tryz.results93) ?_
  refine PW.go tab_ok [] fun K hK => ?_
  simp only [go_sem, ↓reduceIte, reduceCtorEq, Nat.reduceBEq, Nat.reduceAdd, Nat.reduceMul, Nat.reduceSub, Nat.reduceLT, Nat.reduceLeDiff, Nat.reduceEqDiff]
  (refine hK _ _ ?_; (try clear hK); (try clear K))
  refine PW.go tab_ok [] fun K hK => ?_
  cases h1 : decide ((c.toNat : Int) ≥ 65)
  · simp only [bPV, h1, go_sem, ↓reduceIte, reduceCtorEq, Nat.reduceBEq, Nat.reduceAdd, Nat.reduceMul, Nat.reduceSub, Nat.reduceLT, Nat.reduceLeDiff, Nat.reduceEqDiff]
    (refine hK _ _ ?_; (try clear hK); (try clear K))
    exact PW.ret (Pure.ret rfl (by simp [greatB, h1, resPV]) rfl)
  · simp only [bPV, h1, go_sem, ↓reduceIte, reduceCtorEq, Nat.reduceBEq, Nat.reduceAdd, Nat.reduceMul, Nat.reduceSub, Nat.reduceLT, Nat.reduceLeDiff, Nat.reduceEqDiff]
    (refine hK _ _ ?_; (try clear hK); (try clear K))
    exact PW.ret (Pure.ret rfl (by simp [greatB, h1, resPV]) rfl)
theorem digit_pc : Bt 94 digitB := by
  intro c
  refine PC.intro tab_ok Tryz.func94 rfl (by kernel_rfl) Tryz.ntmps94 (Nat.le_of_ble_eq_true rfl) (rs := _) (congrArg Array.toList Tryz.results94) ?_
  refine PW.go tab_ok [] fun K hK => ?_
  simp only [go_sem, ↓reduceIte, reduceCtorEq, Nat.reduceBEq, Nat.reduceAdd, Nat.reduceMul, Nat.reduceSub, Nat.reduceLT, Nat.reduceLeDiff, Nat.reduceEqDiff]
  (refine hK _ _ ?_; (try clear hK); (try clear K))
  refine PW.go tab_ok [] fun K hK => ?_
  cases h1 : decide ((c.toNat : Int) ≥ 48)
  · simp only [bPV, h1, go_sem, ↓reduceIte, reduceCtorEq, Nat.reduceBEq, Nat.reduceAdd, Nat.reduceMul, Nat.reduceSub, Nat.reduceLT, Nat.reduceLeDiff, Nat.reduceEqDiff]
    (refine hK _ _ ?_; (try clear hK); (try clear K))
    exact PW.ret (Pure.ret rfl (by simp [digitB, h1, resPV]) rfl)
  · simp only [bPV, h1, go_sem, ↓reduceIte, reduceCtorEq, Nat.reduceBEq, Nat.reduceAdd, Nat.reduceMul, Nat.reduceSub, Nat.reduceLT, Nat.reduceLeDiff, Nat.reduceEqDiff]
    (refine hK _ _ ?_; (try clear hK); (try clear K))
    exact PW.ret (Pure.ret rfl (by simp [digitB, h1, resPV]) rfl)
theorem line_pc : Bt 89 lineB := by
  intro c
  refine PC.intro tab_ok Tryz.func89 rfl (by kernel_rfl) Tryz.ntmps89 (Nat.le_of_ble_eq_true rfl) (rs := _) (congrArg Array.toList Tryz.results89) ?_
  refine PW.go tab_ok [] fun K hK => ?_
  simp only [go_sem, ↓reduceIte, reduceCtorEq, Nat.reduceBEq, Nat.reduceAdd, Nat.reduceMul, Nat.reduceSub, Nat.reduceLT, Nat.reduceLeDiff, Nat.reduceEqDiff]
  (refine hK _ _ ?_; (try clear hK); (try clear K))
  refine PW.go tab_ok [] fun K hK => ?_
  simp only [bPV, go_sem, ↓reduceIte, reduceCtorEq, Nat.reduceBEq, Nat.reduceAdd, Nat.reduceMul, Nat.reduceSub, Nat.reduceLT, Nat.reduceLeDiff, Nat.reduceEqDiff]
  (refine hK _ _ ?_; (try clear hK); (try clear K))
  exact PW.ret (Pure.ret rfl rfl rfl)
theorem first_pc : Bt 91 firstB := by
  intro c
  refine PC.intro tab_ok Tryz.func91 rfl (by kernel_rfl) Tryz.ntmps91 (Nat.le_of_ble_eq_true rfl) (rs := _) (congrArg Array.toList Tryz.results91) ?_
  refine PW.go tab_ok [] fun K hK => ?_
  simp only [go_sem, ↓reduceIte, reduceCtorEq, Nat.reduceBEq, Nat.reduceAdd, Nat.reduceMul, Nat.reduceSub, Nat.reduceLT, Nat.reduceLeDiff, Nat.reduceEqDiff]
  (refine hK _ _ ?_; (try clear hK); (try clear K))
  refine PW.go tab_ok [] fun K hK => ?_
  cases h1 : decide ((c.toNat : Int) ≥ 97)
  · simp only [bPV, h1, go_sem, ↓reduceIte, reduceCtorEq, Nat.reduceBEq, Nat.reduceAdd, Nat.reduceMul, Nat.reduceSub, Nat.reduceLT, Nat.reduceLeDiff, Nat.reduceEqDiff]
    (refine hK _ _ ?_; (try clear hK); (try clear K))
    exact PW.ret (Pure.ret rfl (by simp [firstB, h1, resPV]) rfl)
  · cases h2 : decide ((c.toNat : Int) ≤ 122)
    · simp only [bPV, h1, h2, go_sem, ↓reduceIte, reduceCtorEq, Nat.reduceBEq, Nat.reduceAdd, Nat.reduceMul, Nat.reduceSub, Nat.reduceLT, Nat.reduceLeDiff, Nat.reduceEqDiff]
      (refine hK _ _ ?_; (try clear hK); (try clear K))
      exact PW.ret (Pure.ret rfl (by simp [firstB, h1, h2, resPV]) rfl)
    · simp only [bPV, h1, h2, go_sem, ↓reduceIte, reduceCtorEq, Nat.reduceBEq, Nat.reduceAdd, Nat.reduceMul, Nat.reduceSub, Nat.reduceLT, Nat.reduceLeDiff, Nat.reduceEqDiff]
      (refine hK _ _ ?_; (try clear hK); (try clear K))
      exact PW.ret (Pure.ret rfl (by simp [firstB, h1, h2, resPV]) rfl)
theorem small_pc : Bt 92 smallB := by
  intro c
  refine PC.intro tab_ok Tryz.func92 rfl (by kernel_rfl) Tryz.ntmps92 (Nat.le_of_ble_eq_true rfl) (rs := _) (congrArg Array.toList Tryz.results92) ?_
  refine PW.go tab_ok [] fun K hK => ?_
  simp only [go_sem, ↓reduceIte, reduceCtorEq, Nat.reduceBEq, Nat.reduceAdd, Nat.reduceMul, Nat.reduceSub, Nat.reduceLT, Nat.reduceLeDiff, Nat.reduceEqDiff]
  (refine hK _ _ ?_; (try clear hK); (try clear K))
  refine PW.go tab_ok [] fun K hK => ?_
  simp only [go_sem, ↓reduceIte, reduceCtorEq, Nat.reduceBEq, Nat.reduceAdd, Nat.reduceMul, Nat.reduceSub, Nat.reduceLT, Nat.reduceLeDiff, Nat.reduceEqDiff]
  refine (first_pc c).use (Weaks.refl _) rfl rfl ?_
  refine PO.go tab_ok [] ?_
  cases h1 : firstB c
  · simp only [go_sem, ↓reduceIte, reduceCtorEq, Nat.reduceBEq, Nat.reduceAdd, Nat.reduceMul, Nat.reduceSub, Nat.reduceLT, Nat.reduceLeDiff, Nat.reduceEqDiff]
    refine (digit_pc c).use (Weaks.refl _) rfl rfl ?_
    refine PO.go tab_ok [] ?_
    simp only [go_sem, ↓reduceIte, reduceCtorEq, Nat.reduceBEq, Nat.reduceAdd, Nat.reduceMul, Nat.reduceSub, Nat.reduceLT, Nat.reduceLeDiff, Nat.reduceEqDiff]
    (refine hK _ _ ?_; (try clear hK); (try clear K))
    exact PW.ret (Pure.ret rfl (by simp [smallB, h1, resPV]) rfl)
  · simp only [go_sem, ↓reduceIte, reduceCtorEq, Nat.reduceBEq, Nat.reduceAdd, Nat.reduceMul, Nat.reduceSub, Nat.reduceLT, Nat.reduceLeDiff, Nat.reduceEqDiff]
    (refine hK _ _ ?_; (try clear hK); (try clear K))
    exact PW.ret (Pure.ret rfl (by simp [smallB, h1, resPV]) rfl)
end Go.Proofs.YtpepmfhemjeocaaGreatDoor
end
section
/- The lexer: beginnings, rows of bytes, words and signs. -/
set_option linter.unusedVariables false
set_option linter.unusedSimpArgs false
namespace Go.Proofs.YtpepmfhemjeocaaGreatDoor
open Go

def prefB (s p : Str) : Bool := decide ((s.length : Int) ≥ (p.length : Int)) && (s.take p.length == p)
theorem prefix_pc (s p : Str) : Pure Tryz.prog 142 [.str s, .str p] (.bool (prefB s p)) := by
  refine PC.intro tab_ok Tryz.func142 rfl (by kernel_rfl) Tryz.ntmps142 (Nat.le_of_ble_eq_true rfl) (rs := _) (congrArg Array.toList Tryz.results142) ?_
  refine PW.go tab_ok [] fun K hK => ?_
  simp only [go_sem, ↓reduceIte, reduceCtorEq, Nat.reduceBEq, Nat.reduceAdd, Nat.reduceMul, Nat.reduceSub, Nat.reduceLT, Nat.reduceLeDiff, Nat.reduceEqDiff]
  (refine hK _ _ ?_; (try clear hK); (try clear K))
  refine PW.go tab_ok [] fun K hK => ?_
  cases h1 : decide ((s.length : Int) ≥ (p.length : Int))
  · simp only [h1, go_sem, ↓reduceIte, reduceCtorEq, Nat.reduceBEq, Nat.reduceAdd, Nat.reduceMul, Nat.reduceSub, Nat.reduceLT, Nat.reduceLeDiff, Nat.reduceEqDiff]
    (refine hK _ _ ?_; (try clear hK); (try clear K))
    exact PW.ret (Pure.ret rfl (by simp only [prefB, h1, resPV, Bool.false_and]) rfl)
  · have h2 : (0 : Int) ≤ (p.length : Int) ∧ (p.length : Int) ≤ (s.length : Int) := ⟨by omega, by simpa using h1⟩
    have h3 : (0 : Int) ≤ (p.length : Int) := by omega
    have h4 : (p.length : Int) ≤ (s.length : Int) := by simpa using h1
    simp only [h1, h3, h4, Int.toNat_natCast, go_sem, ↓reduceIte, reduceCtorEq, Nat.reduceBEq, Nat.reduceAdd, Nat.reduceMul, Nat.reduceSub, Nat.reduceLT, Nat.reduceLeDiff, Nat.reduceEqDiff]
    (refine hK _ _ ?_; (try clear hK); (try clear K))
    exact PW.ret (Pure.ret rfl (by simp only [prefB, h1, resPV, Bool.true_and, cond_true]) rfl)
theorem hasPrefix_pc (s p : Str) : Pure Tryz.prog 87 [.str s, .str p] (.bool (prefB s p)) := by
  refine PC.intro tab_ok Tryz.func87 rfl (by kernel_rfl) Tryz.ntmps87 (Nat.le_of_ble_eq_true rfl) (rs := _) (congrArg Array.toList Tryz.results87) ?_
  refine PW.go tab_ok [] fun K hK => ?_
  simp only [go_sem, ↓reduceIte, reduceCtorEq, Nat.reduceBEq, Nat.reduceAdd, Nat.reduceMul, Nat.reduceSub, Nat.reduceLT, Nat.reduceLeDiff, Nat.reduceEqDiff]
  (refine hK _ _ ?_; (try clear hK); (try clear K))
  refine PW.go tab_ok [] fun K hK => ?_
  simp only [go_sem, ↓reduceIte, reduceCtorEq, Nat.reduceBEq, Nat.reduceAdd, Nat.reduceMul, Nat.reduceSub, Nat.reduceLT, Nat.reduceLeDiff, Nat.reduceEqDiff]
  refine (prefix_pc s p).use (Weaks.refl _) rfl rfl ?_
  refine PO.go tab_ok [] ?_
  simp only [go_sem, ↓reduceIte, reduceCtorEq, Nat.reduceBEq, Nat.reduceAdd, Nat.reduceMul, Nat.reduceSub, Nat.reduceLT, Nat.reduceLeDiff, Nat.reduceEqDiff]
  (refine hK _ _ ?_; (try clear hK); (try clear K))
  exact PW.ret (Pure.ret rfl rfl rfl)
def rowN (p : UInt8 → Bool) (s : Str) : Nat := (s.takeWhile p).length
theorem rowN_eq {p : UInt8 → Bool} : ∀ {s : Str} {k : Nat}, (∀ (j : Nat) (c : UInt8), j < k → s[j]? = some c → p c = true) → (s[k]? = none ∧ k ≤ s.length ∨ ∃ c, s[k]? = some c ∧ p c = false) → rowN p s = k
  | [], 0, _, _ => rfl
  | [], k + 1, _, h => by
    rcases h with h | ⟨c, h, _⟩
    · simp at h
    · simp at h
  | x :: s, 0, _, h => by
    rcases h with h | ⟨c, h, hp⟩
    · simp at h
    · simp at h
      subst h
      simp [rowN, hp]
  | x :: s, k + 1, hj, h => by
    have hx := hj 0 x (by omega) rfl
    have := rowN_eq (p := p) (s := s) (k := k) (fun j c hlt e => hj (j + 1) c (by omega) (by simpa using e)) (by
      rcases h with h | ⟨c, h, hp⟩
      · exact .inl (by simpa using h)
      · exact .inr ⟨c, by simpa using h, hp⟩)
    simp only [rowN, List.takeWhile_cons, hx, if_true, List.length_cons]
    exact congrArg (· + 1) this
theorem rowN_le (p : UInt8 → Bool) (s : Str) : rowN p s ≤ s.length := (List.takeWhile_prefix p).length_le
theorem lexrow_pc {g : FuncId} {p : UInt8 → Bool} (hg : Bt g p) {s : Str} (hl : s.length ≤ 4611686018427387903) :
    Pure Tryz.prog 88 [.str s, .clo (.func g) [] []] (.int .i64 (rowN p s)) := by
  refine PC.intro tab_ok Tryz.func88 rfl (by kernel_rfl) Tryz.ntmps88 (Nat.le_of_ble_eq_true rfl) (rs := _) (congrArg Array.toList Tryz.results88) ?_
  refine PW.go tab_ok [] fun K hK => ?_
  simp only [go_sem, ↓reduceIte, reduceCtorEq, Nat.reduceBEq, Nat.reduceAdd, Nat.reduceMul, Nat.reduceSub, Nat.reduceLT, Nat.reduceLeDiff, Nat.reduceEqDiff]
  (refine hK _ _ ?_; (try clear hK); (try clear K))
  refine PW.go tab_ok [] fun K hK => ?_
  simp only [go_sem, ↓reduceIte, reduceCtorEq, Nat.reduceBEq, Nat.reduceAdd, Nat.reduceMul, Nat.reduceSub, Nat.reduceLT, Nat.reduceLeDiff, Nat.reduceEqDiff]
  (refine hK _ _ ?_; (try clear hK); (try clear K))
  refine PW.seq_k fun K0 hK0 => ?_
  refine PW.block (PW.loop (α := Nat) (fun k => [(5, .int .i64 (k : Int)), (0, .str s), (1, .clo (.func g) [] [])]) (fun k => ⟨[], []⟩)
    (fun k => k ≤ s.length ∧ ∀ (j : Nat) (c : UInt8), j < k → s[j]? = some c → p c = true) (fun k => s.length - k) 0 ⟨Nat.zero_le _, fun j c h => by omega⟩ ?_ rfl (fun _ _ => ⟨rfl, rfl⟩) ?_)
  · simp [Sub, eget]
  rintro k ⟨hk, hj⟩
  have hstop : ∀ {env : Env} {st : St}, Sub env [(5, .int .i64 (k : Int))] → st = ⟨[], []⟩ → rowN p s = k → K0 env st := by
    rintro env st hsub rfl hr
    refine hK0 _ _ (PW.less _ hsub ?_)
    refine PW.go tab_ok [] fun K hK => ?_
    simp only [go_sem, ↓reduceIte, reduceCtorEq, Nat.reduceBEq, Nat.reduceAdd, Nat.reduceMul, Nat.reduceSub, Nat.reduceLT, Nat.reduceLeDiff, Nat.reduceEqDiff]
    (refine hK _ _ ?_; (try clear hK); (try clear K))
    exact PW.ret (Pure.ret rfl (by rw [hr]; rfl) rfl)
  refine PW.seq_k fun K2 hK2 => ?_
  refine PW.go tab_ok [] fun K hK => ?_
  by_cases hlt : k < s.length
  · have h1 : decide ((k : Int) < (s.length : Int)) = true := by simpa using hlt
    have h0 : (0 : Int) ≤ (k : Int) := by omega
    have hget : s[((k : Int)).toNat]? = some s[k] := by simp [hlt]
    simp only [h1, h0, hget, go_sem, ↓reduceIte, reduceCtorEq, Nat.reduceBEq, Nat.reduceAdd, Nat.reduceMul, Nat.reduceSub, Nat.reduceLT, Nat.reduceLeDiff, Nat.reduceEqDiff]
    refine (hg s[k]).use (Weaks.refl _) rfl rfl ?_
    refine PO.go tab_ok [] ?_
    cases hp : p s[k]
    · simp only [go_sem, ↓reduceIte, reduceCtorEq, Nat.reduceBEq, Nat.reduceAdd, Nat.reduceMul, Nat.reduceSub, Nat.reduceLT, Nat.reduceLeDiff, Nat.reduceEqDiff]
      (refine hK _ _ ?_; (try clear hK); (try clear K))
      refine PW.cond_split (b := false) rfl ?_ ?_ <;> intro hb
      · cases hb
      exact PW.exit (hstop (by simp [Sub, eget]) rfl (rowN_eq hj (.inr ⟨s[k], by simp [hlt], hp⟩)))
    · simp only [go_sem, ↓reduceIte, reduceCtorEq, Nat.reduceBEq, Nat.reduceAdd, Nat.reduceMul, Nat.reduceSub, Nat.reduceLT, Nat.reduceLeDiff, Nat.reduceEqDiff]
      (refine hK _ _ ?_; (try clear hK); (try clear K))
      refine PW.cond_split (b := true) rfl ?_ ?_ <;> intro hb
      · refine PW.skip (hK2 _ _ ?_)
        have hw : IntKind.i64.wrap ((k : Int) + 1) = ((k + 1 : Nat) : Int) := by
          rw [show (k : Int) + 1 = ((k + 1 : Nat) : Int) from by omega]
          exact wrap_nat (by omega)
        refine PW.block ?_
        refine PW.goL tab_ok [] fun K hK => ?_
        simp only [go_sem, ↓reduceIte, reduceCtorEq, Nat.reduceBEq, Nat.reduceAdd, Nat.reduceMul, Nat.reduceSub, Nat.reduceLT, Nat.reduceLeDiff, Nat.reduceEqDiff]
        (refine hK _ _ ?_; (try clear hK); (try clear K))
        refine ⟨k + 1, ⟨by omega, ?_⟩, by omega, by simp [Sub, eget, hw], ⟨by simp, rfl, by simp⟩, rfl⟩
        intro j c hlj e
        rcases Nat.lt_or_ge j k with h | h
        · exact hj j c h e
        · have : j = k := by omega
          subst this
          rw [List.getElem?_eq_getElem hlt] at e
          injection e with e
          rw [← e]; exact hp
      · cases hb
  · have h1 : decide ((k : Int) < (s.length : Int)) = false := by simpa using hlt
    simp only [h1, go_sem, ↓reduceIte, reduceCtorEq, Nat.reduceBEq, Nat.reduceAdd, Nat.reduceMul, Nat.reduceSub, Nat.reduceLT, Nat.reduceLeDiff, Nat.reduceEqDiff]
    (refine hK _ _ ?_; (try clear hK); (try clear K))
    refine PW.cond_split (b := false) rfl ?_ ?_ <;> intro hb
    · cases hb
    exact PW.exit (hstop (by simp [Sub, eget]) rfl (rowN_eq hj (.inl ⟨by simp; omega, hk⟩)))
end Go.Proofs.YtpepmfhemjeocaaGreatDoor
end
section
/- The lexer: blanks. -/
set_option linter.unusedVariables false
set_option linter.unusedSimpArgs false
namespace Go.Proofs.YtpepmfhemjeocaaGreatDoor
open Go

def blankB (c : UInt8) : Bool := ((c.toNat : Int) == 9) || ((c.toNat : Int) == 10) || ((c.toNat : Int) == 13) || ((c.toNat : Int) == 32)
def sDash : Str := [45, 45]
/-- How many bytes of blanks stand at the begin. -/
def blankF : Nat → Str → Nat
  | 0, _ => 0
  | n + 1, s => match s with
    | [] => 0
    | c :: r => if blankB c then 1 + blankF n r
      else if ((c.toNat : Int) == 45) && prefB s sDash then rowN lineB s + blankF n (s.drop (rowN lineB s)) else 0
def blankN (s : Str) : Nat := blankF s.length s
theorem rowN_dash {s : Str} (h : prefB s sDash = true) : 2 ≤ rowN lineB s := by
  simp only [prefB, Bool.and_eq_true, decide_eq_true_eq, beq_iff_eq] at h
  obtain ⟨h1, h2⟩ := h
  match s, h1, h2 with
  | [], h1, h2 => simp [sDash] at h2
  | [a], h1, h2 => simp [sDash] at h2
  | a :: b :: s, h1, h2 =>
    simp [sDash] at h2
    obtain ⟨rfl, rfl⟩ := h2
    show 2 ≤ (List.takeWhile lineB (45 :: 45 :: s)).length
    rw [List.takeWhile_cons, if_pos (by decide), List.takeWhile_cons, if_pos (by decide)]
    simp
theorem blankF_le : ∀ (n : Nat) (s : Str), blankF n s ≤ s.length
  | 0, s => Nat.zero_le _
  | n + 1, s => by
    unfold blankF
    split
    · exact Nat.zero_le _
    · rename_i c r
      split
      · have := blankF_le n r
        simp
        omega
      · split
        · have h1 := blankF_le n ((c :: r).drop (rowN lineB (c :: r)))
          have h2 := rowN_le lineB (c :: r)
          simp only [List.length_drop] at h1
          omega
        · exact Nat.zero_le _
theorem blankN_le (s : Str) : blankN s ≤ s.length := blankF_le _ s

theorem blanks_pc {s : Str} (hl : s.length ≤ 1000000) : Pure Tryz.prog 38 [.str s] (.int .i64 (blankN s)) := by
  refine PC.intro tab_ok Tryz.func38 rfl (by kernel_rfl) Tryz.ntmps38 (Nat.le_of_ble_eq_true rfl) (rs := _) (congrArg Array.toList Tryz.results38) ?_
  refine PW.go tab_ok [] fun K hK => ?_
  simp only [go_sem, ↓reduceIte, reduceCtorEq, Nat.reduceBEq, Nat.reduceAdd, Nat.reduceMul, Nat.reduceSub, Nat.reduceLT, Nat.reduceLeDiff, Nat.reduceEqDiff]
  (refine hK _ _ ?_; (try clear hK); (try clear K))
  refine PW.scope ?_
  refine PW.go tab_ok [] fun K hK => ?_
  simp only [go_sem, ↓reduceIte, reduceCtorEq, Nat.reduceBEq, Nat.reduceAdd, Nat.reduceMul, Nat.reduceSub, Nat.reduceLT, Nat.reduceLeDiff, Nat.reduceEqDiff]
  (refine hK _ _ ?_; (try clear hK); (try clear K))
  refine PW.seq_k fun K1 hK1 => PW.label (hK1 _ _ ?_)
  clear hK1 K1
  refine PW.seq_k fun K0 hK0 => ?_
  refine PW.block (PW.loop (α := Nat × Nat) (fun a => [(3, .int .i64 (a.1 : Int)), (0, .str s)]) (fun _ => ⟨[], []⟩)
    (fun a => a.1 ≤ s.length ∧ s.length - a.1 ≤ a.2 ∧ a.1 + blankF a.2 (s.drop a.1) = blankN s) (fun a => a.2) (0, s.length) ⟨Nat.zero_le _, by simp, by simp [blankN]⟩ ?_ rfl (fun _ _ => ⟨rfl, rfl⟩) ?_)
  · simp [Sub, eget]
  rintro ⟨k, n⟩ ⟨hk, hn, he⟩
  simp only at hk hn he
  have hstop : ∀ {env : Env} {st : St}, Sub env [(3, .int .i64 (k : Int))] → st = ⟨[], []⟩ → blankF n (s.drop k) = 0 → K0 env st := by
    rintro env st hsub rfl hr
    refine hK0 _ _ (PW.less _ hsub ?_)
    refine PW.go tab_ok [] fun K hK => ?_
    simp only [go_sem, ↓reduceIte, reduceCtorEq, Nat.reduceBEq, Nat.reduceAdd, Nat.reduceMul, Nat.reduceSub, Nat.reduceLT, Nat.reduceLeDiff, Nat.reduceEqDiff]
    (refine hK _ _ ?_; (try clear hK); (try clear K))
    exact PW.ret (Pure.ret rfl (by rw [← he, hr]; rfl) rfl)
  have h0 : (0 : Int) ≤ (k : Int) := by omega
  have h0' : (k : Int) ≤ (s.length : Int) := by omega
  refine PW.seq_k fun K2 hK2 => ?_
  refine PW.go tab_ok [] fun K hK => ?_
  simp only [go_sem, ↓reduceIte, reduceCtorEq, Nat.reduceBEq, Nat.reduceAdd, Nat.reduceMul, Nat.reduceSub, Nat.reduceLT, Nat.reduceLeDiff, Nat.reduceEqDiff]
  (refine hK _ _ ?_; (try clear hK); (try clear K))
  refine PW.cond_split (b := decide ((k : Int) < (s.length : Int))) rfl ?_ ?_ <;> intro hb
  · have hlt : k < s.length := by simpa using hb
    obtain ⟨m, rfl⟩ : ∃ m, n = m + 1 := ⟨n - 1, by omega⟩
    have hget : s[((k : Int)).toNat]? = some s[k] := by simp [hlt]
    have hdr : s.drop k = s[k] :: s.drop (k + 1) := List.drop_eq_getElem_cons hlt
    refine PW.skip (hK2 _ _ ?_)
    clear hK2 K2
    refine PW.block ?_
    refine PW.seq_k fun K3 hK3 => ?_
    refine PW.go tab_ok [] fun K hK => ?_
    simp only [h0, hget, go_sem, ↓reduceIte, reduceCtorEq, Nat.reduceBEq, Nat.reduceAdd, Nat.reduceMul, Nat.reduceSub, Nat.reduceLT, Nat.reduceLeDiff, Nat.reduceEqDiff]
    (refine hK _ _ ?_; (try clear hK); (try clear K))
    generalize s[k] = c at hget hdr
    have hgo : ∀ (q : Nat), 0 < q → k + q ≤ s.length → q + blankF m ((s.drop k).drop q) = blankF (m + 1) (s.drop k) → (k + q) + blankF m (s.drop (k + q)) = blankN s := by
      intro q _ _ e
      rw [← he, ← e, List.drop_drop]
      omega
    refine PW.block ?_
    refine PW.seq_k fun K4 hK4 => ?_
    have hsw : ∀ {env : Env} {st : St}, Sub env [(11, .bool (blankB c)), (10, .int .u8 (c.toNat : Int)), (3, .int .i64 (k : Int)), (0, .str s)] → st = ⟨[], []⟩ → K4 env st := by
      rintro env st hsub rfl
      refine hK4 _ _ (PW.less _ hsub ?_)
      clear hK4 K4
      refine PW.cond_split (b := blankB c) rfl ?_ ?_ <;> intro hb
      · refine PW.go tab_ok [] fun K hK => ?_
        simp only [go_sem, ↓reduceIte, reduceCtorEq, Nat.reduceBEq, Nat.reduceAdd, Nat.reduceMul, Nat.reduceSub, Nat.reduceLT, Nat.reduceLeDiff, Nat.reduceEqDiff]
        (refine hK _ _ ?_; (try clear hK); (try clear K))
        refine PW.exit ?_
        have hw : IntKind.i64.wrap ((k : Int) + 1) = ((k + 1 : Nat) : Int) := by
          rw [show (k : Int) + 1 = ((k + 1 : Nat) : Int) from by omega]
          exact wrap_nat (by omega)
        refine ⟨(k + 1, m), ⟨by simp only; omega, by simp only; omega, ?_⟩, by simp, by simp [Sub, eget, hw], ⟨by simp, rfl, by simp⟩, rfl⟩
        refine hgo 1 (by omega) (by omega) ?_
        rw [hdr]
        simp [blankF, hb]
      · have hnb : ¬ blankB c = true := by simp [hb]
        refine PW.go tab_ok [] fun K hK => ?_
        simp only [go_sem, ↓reduceIte, reduceCtorEq, Nat.reduceBEq, Nat.reduceAdd, Nat.reduceMul, Nat.reduceSub, Nat.reduceLT, Nat.reduceLeDiff, Nat.reduceEqDiff]
        (refine hK _ _ ?_; (try clear hK); (try clear K))
        refine PW.cond_split (b := (c.toNat : Int) == 45) rfl ?_ ?_ <;> intro hb2
        · refine PW.go tab_ok [] fun K hK => ?_
          simp only [h0, h0', Int.toNat_natCast, go_sem, ↓reduceIte, reduceCtorEq, Nat.reduceBEq, Nat.reduceAdd, Nat.reduceMul, Nat.reduceSub, Nat.reduceLT, Nat.reduceLeDiff, Nat.reduceEqDiff]
          refine (hasPrefix_pc (s.drop k) sDash).use (Weaks.refl _) rfl rfl ?_
          refine PO.go tab_ok [] ?_
          simp only [go_sem, ↓reduceIte, reduceCtorEq, Nat.reduceBEq, Nat.reduceAdd, Nat.reduceMul, Nat.reduceSub, Nat.reduceLT, Nat.reduceLeDiff, Nat.reduceEqDiff]
          (refine hK _ _ ?_; (try clear hK); (try clear K))
          refine PW.cond_split (b := prefB (s.drop k) sDash) rfl ?_ ?_ <;> intro hb3
          · refine PW.go tab_ok [] fun K hK => ?_
            simp only [h0, h0', Int.toNat_natCast, go_sem, ↓reduceIte, reduceCtorEq, Nat.reduceBEq, Nat.reduceAdd, Nat.reduceMul, Nat.reduceSub, Nat.reduceLT, Nat.reduceLeDiff, Nat.reduceEqDiff]
            refine (lexrow_pc line_pc (s := s.drop k) (by simp; omega)).use (Weaks.refl _) rfl rfl ?_
            refine PO.go tab_ok [] ?_
            simp only [go_sem, ↓reduceIte, reduceCtorEq, Nat.reduceBEq, Nat.reduceAdd, Nat.reduceMul, Nat.reduceSub, Nat.reduceLT, Nat.reduceLeDiff, Nat.reduceEqDiff]
            (refine hK _ _ ?_; (try clear hK); (try clear K))
            refine PW.exit ?_
            have h2 := rowN_dash hb3
            have h3 := rowN_le lineB (s.drop k)
            simp only [List.length_drop] at h3
            have hw : IntKind.i64.wrap ((k : Int) + (rowN lineB (s.drop k) : Int)) = ((k + rowN lineB (s.drop k) : Nat) : Int) := by
              rw [show (k : Int) + (rowN lineB (s.drop k) : Int) = ((k + rowN lineB (s.drop k) : Nat) : Int) from by omega]
              exact wrap_nat (by omega)
            refine ⟨(k + rowN lineB (s.drop k), m), ⟨by simp only; omega, by simp only; omega, ?_⟩, by simp, by simp [Sub, eget, hw], ⟨by simp, rfl, by simp⟩, rfl⟩
            refine hgo _ (by omega) (by omega) ?_
            have : blankF (m + 1) (s.drop k) = rowN lineB (s.drop k) + blankF m ((s.drop k).drop (rowN lineB (s.drop k))) := by
              conv => lhs; rw [hdr]
              simp only [blankF, if_neg hnb]
              rw [← hdr, hb2, hb3]
              rfl
            rw [this]
          · refine PW.skip (hK3 _ _ (PW.exit (hstop (by simp [Sub, eget]) rfl ?_)))
            rw [hdr]
            simp only [blankF, if_neg hnb]
            rw [← hdr, hb3]
            simp
        · refine PW.skip (hK3 _ _ (PW.exit (hstop (by simp [Sub, eget]) rfl ?_)))
          rw [hdr]
          simp only [blankF, if_neg hnb, hb2]
          simp
    refine PW.go tab_ok [] fun K hK => ?_
    simp only [go_sem, ↓reduceIte, reduceCtorEq, Nat.reduceBEq, Nat.reduceAdd, Nat.reduceMul, Nat.reduceSub, Nat.reduceLT, Nat.reduceLeDiff, Nat.reduceEqDiff]
    (refine hK _ _ ?_; (try clear hK); (try clear K))
    refine PW.cond_split (b := (c.toNat : Int) == 9) rfl ?_ ?_ <;> intro hb1
    · exact PW.skip (hsw (by simp [Sub, eget, blankB, hb1]) rfl)
    refine PW.go tab_ok [] fun K hK => ?_
    simp only [go_sem, ↓reduceIte, reduceCtorEq, Nat.reduceBEq, Nat.reduceAdd, Nat.reduceMul, Nat.reduceSub, Nat.reduceLT, Nat.reduceLeDiff, Nat.reduceEqDiff]
    (refine hK _ _ ?_; (try clear hK); (try clear K))
    refine PW.cond_split (b := (c.toNat : Int) == 10) rfl ?_ ?_ <;> intro hb2
    · exact PW.skip (hsw (by simp [Sub, eget, blankB, hb1, hb2]) rfl)
    refine PW.go tab_ok [] fun K hK => ?_
    simp only [go_sem, ↓reduceIte, reduceCtorEq, Nat.reduceBEq, Nat.reduceAdd, Nat.reduceMul, Nat.reduceSub, Nat.reduceLT, Nat.reduceLeDiff, Nat.reduceEqDiff]
    (refine hK _ _ ?_; (try clear hK); (try clear K))
    refine PW.cond_split (b := (c.toNat : Int) == 13) rfl ?_ ?_ <;> intro hb3
    · exact PW.skip (hsw (by simp [Sub, eget, blankB, hb1, hb2, hb3]) rfl)
    refine PW.goL tab_ok [] fun K hK => ?_
    simp only [go_sem, ↓reduceIte, reduceCtorEq, Nat.reduceBEq, Nat.reduceAdd, Nat.reduceMul, Nat.reduceSub, Nat.reduceLT, Nat.reduceLeDiff, Nat.reduceEqDiff]
    (refine hK _ _ ?_; (try clear hK); (try clear K))
    exact hsw (by simp [Sub, eget, blankB, hb1, hb2, hb3]) rfl
  · have hge : ¬ k < s.length := by simpa using hb
    have hnil : s.drop k = [] := List.drop_eq_nil_of_le (by omega)
    refine PW.exit (hstop (by simp [Sub, eget]) rfl ?_)
    rw [hnil]
    cases n <;> rfl
end Go.Proofs.YtpepmfhemjeocaaGreatDoor
end
section
/- The lexer: numbers. -/
set_option linter.unusedVariables false
set_option linter.unusedSimpArgs false
namespace Go.Proofs.YtpepmfhemjeocaaGreatDoor
open Go

def dgI (c : UInt8) : Int := IntKind.i64.wrap (IntKind.u8.wrap ((c.toNat : Int) - 48))
def numBad (n : Int) (c : UInt8) : Bool := decide (n > 922337203685477580) || ((n == 922337203685477580) && decide (dgI c > 7))
def numStep (n : Int) (c : UInt8) : Int := IntKind.i64.wrap (IntKind.i64.wrap (10 * n) + dgI c)
def numF : Int → Str → Int × Int
  | n, [] => (n, 0)
  | n, c :: r => if numBad n c then (0, 7) else numF (numStep n c) r
theorem number_pc {s : Str} (hl : s.length ≤ 1000000) : Pure Tryz.prog 148 [.str s] (.tup [.int .i64 (numF 0 s).1, .int .i64 (numF 0 s).2]) := by
  refine PC.intro tab_ok Tryz.func148 rfl (by kernel_rfl) Tryz.ntmps148 (Nat.le_of_ble_eq_true rfl) (rs := _) (congrArg Array.toList Tryz.results148) ?_
  refine PW.go tab_ok [] fun K hK => ?_
  simp only [go_sem, ↓reduceIte, reduceCtorEq, Nat.reduceBEq, Nat.reduceAdd, Nat.reduceMul, Nat.reduceSub, Nat.reduceLT, Nat.reduceLeDiff, Nat.reduceEqDiff]
  (refine hK _ _ ?_; (try clear hK); (try clear K))
  refine PW.go tab_ok [] fun K hK => ?_
  simp only [go_sem, ↓reduceIte, reduceCtorEq, Nat.reduceBEq, Nat.reduceAdd, Nat.reduceMul, Nat.reduceSub, Nat.reduceLT, Nat.reduceLeDiff, Nat.reduceEqDiff]
  (refine hK _ _ ?_; (try clear hK); (try clear K))
  refine PW.seq_k fun K0 hK0 => ?_
  refine PW.go tab_ok [] fun K hK => ?_
  simp only [go_sem, ↓reduceIte, reduceCtorEq, Nat.reduceBEq, Nat.reduceAdd, Nat.reduceMul, Nat.reduceSub, Nat.reduceLT, Nat.reduceLeDiff, Nat.reduceEqDiff]
  (refine hK _ _ ?_; (try clear hK); (try clear K))
  refine PW.block (PW.loop (α := Nat × Int) (fun a => [(9, .int .i64 (a.1 : Int)), (8, .int .i64 (s.length : Int)), (4, .int .i64 a.2), (0, .str s)]) (fun _ => ⟨[], []⟩)
    (fun a => a.1 ≤ s.length ∧ numF a.2 (s.drop a.1) = numF 0 s) (fun a => s.length - a.1) (0, 0) ⟨Nat.zero_le _, rfl⟩ ?_ rfl (fun _ _ => ⟨rfl, rfl⟩) ?_)
  · simp [Sub, eget]
  rintro ⟨k, n⟩ ⟨hk, he⟩
  simp only at hk he
  refine PW.go tab_ok [] fun K hK => ?_
  simp only [go_sem, ↓reduceIte, reduceCtorEq, Nat.reduceBEq, Nat.reduceAdd, Nat.reduceMul, Nat.reduceSub, Nat.reduceLT, Nat.reduceLeDiff, Nat.reduceEqDiff]
  (refine hK _ _ ?_; (try clear hK); (try clear K))
  refine PW.seq_k fun K2 hK2 => ?_
  refine PW.cond_split (b := decide ((k : Int) < (s.length : Int))) rfl ?_ ?_ <;> intro hb
  · have hlt : k < s.length := by simpa using hb
    have h0 : (0 : Int) ≤ (k : Int) := by omega
    have hget : s[((k : Int)).toNat]? = some s[k] := by simp [hlt]
    have hdr : s.drop k = s[k] :: s.drop (k + 1) := List.drop_eq_getElem_cons hlt
    refine PW.skip (hK2 _ _ ?_)
    clear hK2 K2
    refine PW.seq_k fun K3 hK3 => PW.block ?_
    generalize s[k] = c at hget hdr
    rw [hdr] at he
    refine PW.go tab_ok [] fun K hK => ?_
    simp only [go_sem, ↓reduceIte, reduceCtorEq, Nat.reduceBEq, Nat.reduceAdd, Nat.reduceMul, Nat.reduceSub, Nat.reduceLT, Nat.reduceLeDiff, Nat.reduceEqDiff]
    (refine hK _ _ ?_; (try clear hK); (try clear K))
    refine PW.go tab_ok [] fun K hK => ?_
    simp only [h0, hget, go_sem, ↓reduceIte, reduceCtorEq, Nat.reduceBEq, Nat.reduceAdd, Nat.reduceMul, Nat.reduceSub, Nat.reduceLT, Nat.reduceLeDiff, Nat.reduceEqDiff]
    (refine hK _ _ ?_; (try clear hK); (try clear K))
    have hd' : IntKind.i64.wrap (IntKind.u8.wrap ((c.toNat : Int) - 48)) = dgI c := rfl
    refine PW.seq_k fun K4 hK4 => ?_
    have hbad : numBad n c = true → numF 0 s = (0, 7) := by
      intro hbd
      rw [← he]
      simp [numF, hbd]
    have hgood : ∀ {env : Env} {st : St}, Sub env [(9, .int .i64 (k : Int)), (8, .int .i64 (s.length : Int)), (6, .int .i64 (dgI c)), (4, .int .i64 n), (0, .str s)] → st = ⟨[], []⟩ → numBad n c = false → K4 env st := by
      rintro env st hsub rfl hbd
      refine hK4 _ _ (PW.less _ hsub ?_)
      refine PW.goL tab_ok [] fun K hK => ?_
      simp only [go_sem, ↓reduceIte, reduceCtorEq, Nat.reduceBEq, Nat.reduceAdd, Nat.reduceMul, Nat.reduceSub, Nat.reduceLT, Nat.reduceLeDiff, Nat.reduceEqDiff]
      (refine hK _ _ ?_; (try clear hK); (try clear K))
      refine hK3 _ _ ?_
      refine PW.goL tab_ok [] fun K hK => ?_
      simp only [go_sem, ↓reduceIte, reduceCtorEq, Nat.reduceBEq, Nat.reduceAdd, Nat.reduceMul, Nat.reduceSub, Nat.reduceLT, Nat.reduceLeDiff, Nat.reduceEqDiff]
      (refine hK _ _ ?_; (try clear hK); (try clear K))
      have hw : IntKind.i64.wrap ((k : Int) + 1) = ((k + 1 : Nat) : Int) := by
        rw [show (k : Int) + 1 = ((k + 1 : Nat) : Int) from by omega]
        exact wrap_nat (by omega)
      refine ⟨(k + 1, numStep n c), ⟨by simp only; omega, ?_⟩, by simp only; omega, by simp [Sub, eget, hw, numStep], ⟨by simp, rfl, by simp⟩, rfl⟩
      rw [← he]
      simp [numF, hbd]
    refine PW.go tab_ok [] fun K hK => ?_
    cases h1 : decide (n > 922337203685477580)
    · cases h2 : n == 922337203685477580
      · simp only [h1, h2, hd', go_sem, ↓reduceIte, reduceCtorEq, Nat.reduceBEq, Nat.reduceAdd, Nat.reduceMul, Nat.reduceSub, Nat.reduceLT, Nat.reduceLeDiff, Nat.reduceEqDiff]
        (refine hK _ _ ?_; (try clear hK); (try clear K))
        refine PW.cond_split (b := false) rfl ?_ ?_ <;> intro hb
        · cases hb
        exact PW.skip (hgood (by simp [Sub, eget]) rfl (by simp only [numBad, h1, h2]; rfl))
      · cases h3 : decide (dgI c > 7)
        · simp only [h1, h2, h3, hd', go_sem, ↓reduceIte, reduceCtorEq, Nat.reduceBEq, Nat.reduceAdd, Nat.reduceMul, Nat.reduceSub, Nat.reduceLT, Nat.reduceLeDiff, Nat.reduceEqDiff]
          (refine hK _ _ ?_; (try clear hK); (try clear K))
          refine PW.cond_split (b := false) rfl ?_ ?_ <;> intro hb
          · cases hb
          exact PW.skip (hgood (by simp [Sub, eget]) rfl (by simp only [numBad, h1, h2, h3]; rfl))
        · simp only [h1, h2, h3, hd', go_sem, ↓reduceIte, reduceCtorEq, Nat.reduceBEq, Nat.reduceAdd, Nat.reduceMul, Nat.reduceSub, Nat.reduceLT, Nat.reduceLeDiff, Nat.reduceEqDiff]
          (refine hK _ _ ?_; (try clear hK); (try clear K))
          refine PW.cond_split (b := true) rfl ?_ ?_ <;> intro hb
          · refine PW.go tab_ok [] fun K hK => ?_
            simp only [go_sem, ↓reduceIte, reduceCtorEq, Nat.reduceBEq, Nat.reduceAdd, Nat.reduceMul, Nat.reduceSub, Nat.reduceLT, Nat.reduceLeDiff, Nat.reduceEqDiff]
            (refine hK _ _ ?_; (try clear hK); (try clear K))
            exact PW.ret (Pure.ret rfl (by rw [hbad (by simp only [numBad, h1, h2, h3]; rfl)]; rfl) rfl)
          · cases hb
    · simp only [h1, hd', go_sem, ↓reduceIte, reduceCtorEq, Nat.reduceBEq, Nat.reduceAdd, Nat.reduceMul, Nat.reduceSub, Nat.reduceLT, Nat.reduceLeDiff, Nat.reduceEqDiff]
      (refine hK _ _ ?_; (try clear hK); (try clear K))
      refine PW.cond_split (b := true) rfl ?_ ?_ <;> intro hb
      · refine PW.go tab_ok [] fun K hK => ?_
        simp only [go_sem, ↓reduceIte, reduceCtorEq, Nat.reduceBEq, Nat.reduceAdd, Nat.reduceMul, Nat.reduceSub, Nat.reduceLT, Nat.reduceLeDiff, Nat.reduceEqDiff]
        (refine hK _ _ ?_; (try clear hK); (try clear K))
        exact PW.ret (Pure.ret rfl (by rw [hbad (by simp only [numBad, h1]; rfl)]; rfl) rfl)
      · cases hb
  · have hge : ¬ k < s.length := by simpa using hb
    have hnil : s.drop k = [] := List.drop_eq_nil_of_le (by omega)
    rw [hnil] at he
    refine PW.exit (hK0 _ _ ?_)
    refine PW.go tab_ok [] fun K hK => ?_
    simp only [go_sem, ↓reduceIte, reduceCtorEq, Nat.reduceBEq, Nat.reduceAdd, Nat.reduceMul, Nat.reduceSub, Nat.reduceLT, Nat.reduceLeDiff, Nat.reduceEqDiff]
    (refine hK _ _ ?_; (try clear hK); (try clear K))
    exact PW.ret (Pure.ret rfl (by rw [← he]; rfl) rfl)
end Go.Proofs.YtpepmfhemjeocaaGreatDoor
end
section
/- The lexer: names, words, numbers. -/
set_option linter.unusedVariables false
set_option linter.unusedSimpArgs false
namespace Go.Proofs.YtpepmfhemjeocaaGreatDoor
open Go

def wordsL : List Str := [[65, 78, 68], [66, 89], [67, 79, 85, 78, 84], [67, 82, 69, 65, 84, 69], [68, 69, 76, 69, 84, 69], [68, 69, 83, 67], [68, 82, 79, 80], [70, 82, 79, 77], [71, 82, 79, 85, 80], [73, 78, 83, 69, 82, 84], [73, 78, 84], [73, 78, 84, 79], [73, 83], [74, 79, 73, 78], [75, 69, 89], [76, 73, 77, 73, 84], [77, 65, 88], [77, 73, 78], [78, 79, 84], [78, 85, 76, 76], [79, 78], [79, 82], [79, 82, 68, 69, 82], [80, 82, 73, 77, 65, 82, 89], [83, 69, 76, 69, 67, 84], [83, 69, 84], [83, 85, 77], [84, 65, 66, 76, 69], [84, 69, 88, 84], [85, 78, 73, 81, 85, 69], [85, 80, 68, 65, 84, 69], [86, 65, 76, 85, 69, 83], [87, 72, 69, 82, 69]]
def signsL : List Str := [[60, 62], [60, 61], [62, 61], [40], [41], [44], [59], [46], [42], [43], [45], [47], [37], [61], [60], [62]]
theorem words_pc : Pure Tryz.prog 147 [] (.list 1 (strs wordsL) .no) := by
  refine PC.intro tab_ok Tryz.func147 rfl (by kernel_rfl) Tryz.ntmps147 (Nat.le_of_ble_eq_true rfl) (rs := _) (congrArg Array.toList Tryz.results147) ?_
  refine PW.go tab_ok [] fun K hK => ?_
  simp only [go_sem, ↓reduceIte, reduceCtorEq, Nat.reduceBEq, Nat.reduceAdd, Nat.reduceMul, Nat.reduceSub, Nat.reduceLT, Nat.reduceLeDiff, Nat.reduceEqDiff]
  (refine hK _ _ ?_; (try clear hK); (try clear K))
  refine PW.go tab_ok [] fun K hK => ?_
  simp only [go_sem, ↓reduceIte, reduceCtorEq, Nat.reduceBEq, Nat.reduceAdd, Nat.reduceMul, Nat.reduceSub, Nat.reduceLT, Nat.reduceLeDiff, Nat.reduceEqDiff]
  (refine hK _ _ ?_; (try clear hK); (try clear K))
  exact PW.ret (Pure.ret rfl rfl rfl)
theorem signs_pc : Pure Tryz.prog 95 [] (.list 1 (strs signsL) .no) := by
  refine PC.intro tab_ok Tryz.func95 rfl (by kernel_rfl) Tryz.ntmps95 (Nat.le_of_ble_eq_true rfl) (rs := _) (congrArg Array.toList Tryz.results95) ?_
  refine PW.go tab_ok [] fun K hK => ?_
  simp only [go_sem, ↓reduceIte, reduceCtorEq, Nat.reduceBEq, Nat.reduceAdd, Nat.reduceMul, Nat.reduceSub, Nat.reduceLT, Nat.reduceLeDiff, Nat.reduceEqDiff]
  (refine hK _ _ ?_; (try clear hK); (try clear K))
  refine PW.go tab_ok [] fun K hK => ?_
  simp only [go_sem, ↓reduceIte, reduceCtorEq, Nat.reduceBEq, Nat.reduceAdd, Nat.reduceMul, Nat.reduceSub, Nat.reduceLT, Nat.reduceLeDiff, Nat.reduceEqDiff]
  (refine hK _ _ ?_; (try clear hK); (try clear K))
  exact PW.ret (Pure.ret rfl rfl rfl)
def glued (s : Str) (n : Nat) : Bool := match s[n]? with
  | some c => smallB c || greatB c
  | none => false
/-- A name, a word or a number of so many bytes. -/
def plainM (s : Str) (n : Nat) : Tok × Int :=
  if glued s n then (⟨0, s.take n, 0, 0⟩, 4)
  else match s with
    | [] => (tok0, 0)
    | c :: _ => if greatB c then (⟨2, s.take n, 0, 0⟩, if 0 ≤ idxF wordsL (s.take n) then 0 else 4)
      else if firstB c then (⟨1, s.take n, 0, 0⟩, if (n : Int) > 16 then 2 else 0)
      else (⟨3, [], (numF 0 (s.take n)).1, 0⟩, (numF 0 (s.take n)).2)
theorem plain_pc {c : UInt8} {r : Str} {n : Nat} (hn : n ≤ (c :: r).length) (hl : (c :: r).length ≤ 1000000) :
    Pure Tryz.prog 96 [.str (c :: r), .int .i64 (n : Int)] (.tup [tokPV (plainM (c :: r) n).1, .int .i64 (plainM (c :: r) n).2]) := by
  have h0 : (0 : Int) ≤ (n : Int) := by omega
  have h0' : (n : Int) ≤ ((c :: r).length : Int) := by omega
  generalize hs : c :: r = s at hn hl h0'
  refine PC.intro tab_ok Tryz.func96 rfl (by kernel_rfl) Tryz.ntmps96 (Nat.le_of_ble_eq_true rfl) (rs := _) (congrArg Array.toList Tryz.results96) ?_
  refine PW.go tab_ok [] fun K hK => ?_
  simp only [go_sem, ↓reduceIte, reduceCtorEq, Nat.reduceBEq, Nat.reduceAdd, Nat.reduceMul, Nat.reduceSub, Nat.reduceLT, Nat.reduceLeDiff, Nat.reduceEqDiff]
  (refine hK _ _ ?_; (try clear hK); (try clear K))
  refine PW.go tab_ok [] fun K hK => ?_
  simp only [h0, h0', Int.toNat_natCast, go_sem, ↓reduceIte, reduceCtorEq, Nat.reduceBEq, Nat.reduceAdd, Nat.reduceMul, Nat.reduceSub, Nat.reduceLT, Nat.reduceLeDiff, Nat.reduceEqDiff]
  (refine hK _ _ ?_; (try clear hK); (try clear K))
  refine PW.seq_k fun K0 hK0 => ?_
  have hgood : ∀ {env : Env} {st : St}, Sub env [(4, .ref 0 0), (5, .int .i64 0), (0, .str s), (1, .int .i64 (n : Int))] → st = ⟨[[.int .i64 0, .str (s.take n), .int .i64 0, .int .i64 0]], []⟩ → glued s n = false → K0 env st := by
    rintro env st hsub rfl hg
    refine hK0 _ _ (PW.less _ hsub ?_)
    clear hK0 K0
    refine PW.seq_k fun K1 hK1 => ?_
    have hend : ∀ {env : Env} {st : St} (t : Tok) (e : Int), Sub env [(4, .ref 0 0), (5, .int .i64 e)] → st = ⟨[[.int .i64 t.kind, .str t.text, .int .i64 t.num, .int .i64 t.at_]], []⟩ → plainM s n = (t, e) → K1 env st := by
      rintro env st t e hsub rfl hp
      refine hK1 _ _ (PW.less _ hsub ?_)
      refine PW.go tab_ok [] fun K hK => ?_
      simp only [go_sem, ↓reduceIte, reduceCtorEq, Nat.reduceBEq, Nat.reduceAdd, Nat.reduceMul, Nat.reduceSub, Nat.reduceLT, Nat.reduceLeDiff, Nat.reduceEqDiff]
      (refine hK _ _ ?_; (try clear hK); (try clear K))
      exact PW.ret (Pure.ret rfl (by rw [hp]; rfl) rfl)
    have hget0 : s[0]? = some c := by rw [← hs]; rfl
    have hpm : plainM s n = if greatB c then (⟨2, s.take n, 0, 0⟩, if 0 ≤ idxF wordsL (s.take n) then 0 else 4)
      else if firstB c then (⟨1, s.take n, 0, 0⟩, if (n : Int) > 16 then 2 else 0)
      else (⟨3, [], (numF 0 (s.take n)).1, 0⟩, (numF 0 (s.take n)).2) := by
      subst hs
      simp only [plainM, hg]
      rfl
    refine PW.block ?_
    refine PW.go tab_ok [] fun K hK => ?_
    simp only [hget0, Int.le_refl, go_sem, ↓reduceIte, reduceCtorEq, Nat.reduceBEq, Nat.reduceAdd, Nat.reduceMul, Nat.reduceSub, Nat.reduceLT, Nat.reduceLeDiff, Nat.reduceEqDiff]
    refine (great_pc c).use (Weaks.refl _) rfl rfl ?_
    refine PO.go tab_ok [] ?_
    simp only [go_sem, ↓reduceIte, reduceCtorEq, Nat.reduceBEq, Nat.reduceAdd, Nat.reduceMul, Nat.reduceSub, Nat.reduceLT, Nat.reduceLeDiff, Nat.reduceEqDiff]
    (refine hK _ _ ?_; (try clear hK); (try clear K))
    refine PW.cond_split (b := greatB c) rfl ?_ ?_ <;> intro hb1
    · refine PW.go tab_ok [] fun K hK => ?_
      simp only [go_sem, ↓reduceIte, reduceCtorEq, Nat.reduceBEq, Nat.reduceAdd, Nat.reduceMul, Nat.reduceSub, Nat.reduceLT, Nat.reduceLeDiff, Nat.reduceEqDiff]
      (refine hK _ _ ?_; (try clear hK); (try clear K))
      refine PW.draws tab_ok mixed [] [(1, []), (2, []), (0, [2]), (3, []), (4, [])] (by kernel_rfl) fun K hK => ?_
      simp only [go_sem, ↓reduceIte, reduceCtorEq, Nat.reduceBEq, Nat.reduceAdd, Nat.reduceMul, Nat.reduceSub, Nat.reduceLT, Nat.reduceLeDiff, Nat.reduceEqDiff]
      refine words_pc.use (Weaks.refl _) rfl rfl ?_
      refine ⟨?_, GO.go tab_ok ?_⟩
      · simp only [go_sem, ↓reduceIte, reduceCtorEq, Nat.reduceBEq, Nat.reduceAdd, Nat.reduceMul, Nat.reduceSub, Nat.reduceLT, Nat.reduceLeDiff, Nat.reduceEqDiff]
      simp only [go_sem, ↓reduceIte, reduceCtorEq, Nat.reduceBEq, Nat.reduceAdd, Nat.reduceMul, Nat.reduceSub, Nat.reduceLT, Nat.reduceLeDiff, Nat.reduceEqDiff]
      refine (contains_pc wordsL (s.take n) (by decide)).use (Weaks.refl _) rfl rfl ?_
      refine GO.go tab_ok ?_
      simp only [go_sem, ↓reduceIte, reduceCtorEq, Nat.reduceBEq, Nat.reduceAdd, Nat.reduceMul, Nat.reduceSub, Nat.reduceLT, Nat.reduceLeDiff, Nat.reduceEqDiff]
      (refine hK _ _ ?_; (try clear hK); (try clear K))
      refine PW.cond_split (b := !decide (idxF wordsL (s.take n) ≥ 0)) rfl ?_ ?_ <;> intro hb2
      · have h2 : ¬ 0 ≤ idxF wordsL (s.take n) := by simpa using hb2
        refine PW.goL tab_ok [] fun K hK => ?_
        simp only [go_sem, ↓reduceIte, reduceCtorEq, Nat.reduceBEq, Nat.reduceAdd, Nat.reduceMul, Nat.reduceSub, Nat.reduceLT, Nat.reduceLeDiff, Nat.reduceEqDiff]
        (refine hK _ _ ?_; (try clear hK); (try clear K))
        exact hend ⟨2, s.take n, 0, 0⟩ 4 (by simp [Sub, eget]) rfl (by rw [hpm, hb1, if_neg h2]; rfl)
      · have h2 : 0 ≤ idxF wordsL (s.take n) := by simpa using hb2
        exact PW.skip (hend ⟨2, s.take n, 0, 0⟩ 0 (by simp [Sub, eget]) rfl (by rw [hpm, hb1, if_pos h2]; rfl))
    refine PW.go tab_ok [] fun K hK => ?_
    simp only [hget0, Int.le_refl, go_sem, ↓reduceIte, reduceCtorEq, Nat.reduceBEq, Nat.reduceAdd, Nat.reduceMul, Nat.reduceSub, Nat.reduceLT, Nat.reduceLeDiff, Nat.reduceEqDiff]
    refine (first_pc c).use (Weaks.refl _) rfl rfl ?_
    refine PO.go tab_ok [] ?_
    simp only [go_sem, ↓reduceIte, reduceCtorEq, Nat.reduceBEq, Nat.reduceAdd, Nat.reduceMul, Nat.reduceSub, Nat.reduceLT, Nat.reduceLeDiff, Nat.reduceEqDiff]
    (refine hK _ _ ?_; (try clear hK); (try clear K))
    refine PW.cond_split (b := firstB c) rfl ?_ ?_ <;> intro hb2
    · refine PW.go tab_ok [] fun K hK => ?_
      simp only [go_sem, ↓reduceIte, reduceCtorEq, Nat.reduceBEq, Nat.reduceAdd, Nat.reduceMul, Nat.reduceSub, Nat.reduceLT, Nat.reduceLeDiff, Nat.reduceEqDiff]
      (refine hK _ _ ?_; (try clear hK); (try clear K))
      refine PW.go tab_ok [] fun K hK => ?_
      simp only [go_sem, ↓reduceIte, reduceCtorEq, Nat.reduceBEq, Nat.reduceAdd, Nat.reduceMul, Nat.reduceSub, Nat.reduceLT, Nat.reduceLeDiff, Nat.reduceEqDiff]
      (refine hK _ _ ?_; (try clear hK); (try clear K))
      refine PW.cond_split (b := decide ((n : Int) > 16)) rfl ?_ ?_ <;> intro hb3
      · have h3 : (n : Int) > 16 := by simpa using hb3
        refine PW.goL tab_ok [] fun K hK => ?_
        simp only [go_sem, ↓reduceIte, reduceCtorEq, Nat.reduceBEq, Nat.reduceAdd, Nat.reduceMul, Nat.reduceSub, Nat.reduceLT, Nat.reduceLeDiff, Nat.reduceEqDiff]
        (refine hK _ _ ?_; (try clear hK); (try clear K))
        exact hend ⟨1, s.take n, 0, 0⟩ 2 (by simp [Sub, eget]) rfl (by rw [hpm, hb1, hb2, if_pos h3]; rfl)
      · have h3 : ¬ (n : Int) > 16 := by simpa using hb3
        exact PW.skip (hend ⟨1, s.take n, 0, 0⟩ 0 (by simp [Sub, eget]) rfl (by rw [hpm, hb1, hb2, if_neg h3]; rfl))
    refine PW.go tab_ok [] fun K hK => ?_
    simp only [go_sem, ↓reduceIte, reduceCtorEq, Nat.reduceBEq, Nat.reduceAdd, Nat.reduceMul, Nat.reduceSub, Nat.reduceLT, Nat.reduceLeDiff, Nat.reduceEqDiff]
    (refine hK _ _ ?_; (try clear hK); (try clear K))
    refine PW.goL tab_ok [] fun K hK => ?_
    simp only [h0, h0', Int.toNat_natCast, go_sem, ↓reduceIte, reduceCtorEq, Nat.reduceBEq, Nat.reduceAdd, Nat.reduceMul, Nat.reduceSub, Nat.reduceLT, Nat.reduceLeDiff, Nat.reduceEqDiff]
    refine (number_pc (s := s.take n) (by simp; omega)).use (Weaks.refl _) rfl rfl ?_
    refine PO.go tab_ok [] ?_
    simp only [go_sem, ↓reduceIte, reduceCtorEq, Nat.reduceBEq, Nat.reduceAdd, Nat.reduceMul, Nat.reduceSub, Nat.reduceLT, Nat.reduceLeDiff, Nat.reduceEqDiff]
    (refine hK _ _ ?_; (try clear hK); (try clear K))
    exact hend ⟨3, [], (numF 0 (s.take n)).1, 0⟩ (numF 0 (s.take n)).2 (by simp [Sub, eget]) rfl (by rw [hpm, hb1, hb2]; rfl)
  refine PW.go tab_ok [] fun K hK => ?_
  have hbad : glued s n = true → plainM s n = (⟨0, s.take n, 0, 0⟩, 4) := by
    intro hg
    simp only [plainM, hg, if_true]
  by_cases hlt : n < s.length
  · have h1 : decide ((n : Int) < (s.length : Int)) = true := by simpa using hlt
    have hget : s[((n : Int)).toNat]? = some s[n] := by simp [hlt]
    have hgl' : glued s n = (smallB s[n] || greatB s[n]) := by simp [glued, hlt]
    simp only [h0, h1, hget, go_sem, ↓reduceIte, reduceCtorEq, Nat.reduceBEq, Nat.reduceAdd, Nat.reduceMul, Nat.reduceSub, Nat.reduceLT, Nat.reduceLeDiff, Nat.reduceEqDiff]
    refine (small_pc s[n]).use (Weaks.refl _) rfl rfl ?_
    refine PO.go tab_ok [] ?_
    cases h2 : smallB s[n]
    · simp only [h0, hget, go_sem, ↓reduceIte, reduceCtorEq, Nat.reduceBEq, Nat.reduceAdd, Nat.reduceMul, Nat.reduceSub, Nat.reduceLT, Nat.reduceLeDiff, Nat.reduceEqDiff]
      refine (great_pc s[n]).use (Weaks.refl _) rfl rfl ?_
      refine PO.go tab_ok [] ?_
      simp only [go_sem, ↓reduceIte, reduceCtorEq, Nat.reduceBEq, Nat.reduceAdd, Nat.reduceMul, Nat.reduceSub, Nat.reduceLT, Nat.reduceLeDiff, Nat.reduceEqDiff]
      (refine hK _ _ ?_; (try clear hK); (try clear K))
      refine PW.cond_split (b := greatB s[n]) rfl ?_ ?_ <;> intro hb
      · refine PW.go tab_ok [] fun K hK => ?_
        simp only [go_sem, ↓reduceIte, reduceCtorEq, Nat.reduceBEq, Nat.reduceAdd, Nat.reduceMul, Nat.reduceSub, Nat.reduceLT, Nat.reduceLeDiff, Nat.reduceEqDiff]
        (refine hK _ _ ?_; (try clear hK); (try clear K))
        exact PW.ret (Pure.ret rfl (by rw [hbad (by rw [hgl', hb]; simp)]; rfl) rfl)
      · exact PW.skip (hgood (by simp [Sub, eget]) rfl (by rw [hgl', h2, hb]; rfl))
    · simp only [go_sem, ↓reduceIte, reduceCtorEq, Nat.reduceBEq, Nat.reduceAdd, Nat.reduceMul, Nat.reduceSub, Nat.reduceLT, Nat.reduceLeDiff, Nat.reduceEqDiff]
      (refine hK _ _ ?_; (try clear hK); (try clear K))
      refine PW.cond_split (b := true) rfl ?_ ?_ <;> intro hb
      · refine PW.go tab_ok [] fun K hK => ?_
        simp only [go_sem, ↓reduceIte, reduceCtorEq, Nat.reduceBEq, Nat.reduceAdd, Nat.reduceMul, Nat.reduceSub, Nat.reduceLT, Nat.reduceLeDiff, Nat.reduceEqDiff]
        (refine hK _ _ ?_; (try clear hK); (try clear K))
        exact PW.ret (Pure.ret rfl (by rw [hbad (by rw [hgl', h2]; simp)]; rfl) rfl)
      · cases hb
  · have h1 : decide ((n : Int) < (s.length : Int)) = false := by simpa using hlt
    simp only [h1, go_sem, ↓reduceIte, reduceCtorEq, Nat.reduceBEq, Nat.reduceAdd, Nat.reduceMul, Nat.reduceSub, Nat.reduceLT, Nat.reduceLeDiff, Nat.reduceEqDiff]
    (refine hK _ _ ?_; (try clear hK); (try clear K))
    refine PW.cond_split (b := false) rfl ?_ ?_ <;> intro hb
    · cases hb
    have h9 : s[n]? = none := List.getElem?_eq_none (by omega)
    exact PW.skip (hgood (by simp [Sub, eget]) rfl (by simp only [glued, h9]))
end Go.Proofs.YtpepmfhemjeocaaGreatDoor
end
section
/- Entries of the model's own: NoEscape, IndexByteString. -/
set_option linter.unusedVariables false
set_option linter.unusedSimpArgs false
namespace Go.Proofs.YtpepmfhemjeocaaGreatDoor
open Go

theorem indexByteString_pc (s : Str) (c : UInt8) : Pure Tryz.prog 188 [.str s, bPV c] (.int .i64 (Lib.indexByte s c)) := by
  intro G w vs hi hv
  cases hv with
  | cons _ _ _ _ h1 h2 =>
  cases h2 with
  | cons _ _ _ _ h2 h3 =>
  cases h3
  cases h1
  cases h2
  refine .inr ⟨.int .i64 (Lib.indexByte s c), w, ?_, G, _, _, .refl G, hi, .int _ _, ⟨rfl, rfl⟩, Nat.le_refl _⟩
  rw [run_callFunc_extern Tryz.func188 (by kernel_rfl) (by kernel_rfl) (by kernel_rfl) (e := Extern.BytealgIndexByte.indexByte) (by kernel_rfl), Lib.run_indexByteString]
  simp
theorem noEscape_pc {x : PV} {st : St} : PC Tryz.prog 180 [x] st fun r st' => r = x ∧ st' = st := by
  intro G w vs hi hv
  cases hv with
  | cons _ v _ _ h1 h2 =>
  cases h2
  refine .inr ⟨v, w, ?_, G, _, _, .refl G, hi, h1, ⟨rfl, rfl⟩, Nat.le_refl _⟩
  rw [run_callFunc_extern Tryz.func180 (by kernel_rfl) (by kernel_rfl) (by kernel_rfl) (e := Extern.AbiNoEscape.same) (by kernel_rfl)]
  rfl
theorem liteIndexByte_pc (s : Str) (c : UInt8) : Pure Tryz.prog 174 [.str s, bPV c] (.int .i64 (Lib.indexByte s c)) := by
  refine PC.intro tab_ok Tryz.func174 rfl (by kernel_rfl) Tryz.ntmps174 (Nat.le_of_ble_eq_true rfl) (rs := _) (congrArg Array.toList Tryz.results174) ?_
  refine PW.go tab_ok [] fun K hK => ?_
  simp only [go_sem, ↓reduceIte, reduceCtorEq, Nat.reduceBEq, Nat.reduceAdd, Nat.reduceMul, Nat.reduceSub, Nat.reduceLT, Nat.reduceLeDiff, Nat.reduceEqDiff]
  (refine hK _ _ ?_; (try clear hK); (try clear K))
  refine PW.go tab_ok [] fun K hK => ?_
  simp only [go_sem, ↓reduceIte, reduceCtorEq, Nat.reduceBEq, Nat.reduceAdd, Nat.reduceMul, Nat.reduceSub, Nat.reduceLT, Nat.reduceLeDiff, Nat.reduceEqDiff]
  refine (indexByteString_pc s c).use (Weaks.refl _) rfl rfl ?_
  refine PO.go tab_ok [] ?_
  simp only [go_sem, ↓reduceIte, reduceCtorEq, Nat.reduceBEq, Nat.reduceAdd, Nat.reduceMul, Nat.reduceSub, Nat.reduceLT, Nat.reduceLeDiff, Nat.reduceEqDiff]
  (refine hK _ _ ?_; (try clear hK); (try clear K))
  exact PW.ret (Pure.ret rfl rfl rfl)
theorem indexByte_pc (s : Str) (c : UInt8) : Pure Tryz.prog 143 [.str s, bPV c] (.int .i64 (Lib.indexByte s c)) := by
  refine PC.intro tab_ok Tryz.func143 rfl (by kernel_rfl) Tryz.ntmps143 (Nat.le_of_ble_eq_true rfl) (rs := _) (congrArg Array.toList Tryz.results143) ?_
  refine PW.go tab_ok [] fun K hK => ?_
  simp only [go_sem, ↓reduceIte, reduceCtorEq, Nat.reduceBEq, Nat.reduceAdd, Nat.reduceMul, Nat.reduceSub, Nat.reduceLT, Nat.reduceLeDiff, Nat.reduceEqDiff]
  (refine hK _ _ ?_; (try clear hK); (try clear K))
  refine PW.go tab_ok [] fun K hK => ?_
  simp only [go_sem, ↓reduceIte, reduceCtorEq, Nat.reduceBEq, Nat.reduceAdd, Nat.reduceMul, Nat.reduceSub, Nat.reduceLT, Nat.reduceLeDiff, Nat.reduceEqDiff]
  refine (liteIndexByte_pc s c).use (Weaks.refl _) rfl rfl ?_
  refine PO.go tab_ok [] ?_
  simp only [go_sem, ↓reduceIte, reduceCtorEq, Nat.reduceBEq, Nat.reduceAdd, Nat.reduceMul, Nat.reduceSub, Nat.reduceLT, Nat.reduceLeDiff, Nat.reduceEqDiff]
  (refine hK _ _ ?_; (try clear hK); (try clear K))
  exact PW.ret (Pure.ret rfl rfl rfl)
end Go.Proofs.YtpepmfhemjeocaaGreatDoor
end
section
/- The lexer: a token. -/
set_option linter.unusedVariables false
set_option linter.unusedSimpArgs false
namespace Go.Proofs.YtpepmfhemjeocaaGreatDoor
open Go

/-- A token, its bytes, what is wrong with it. -/
structure Tk3 where
  t : Tok
  n : Nat
  e : Int
def tk3PV (x : Tk3) : PV := .tup [tokPV x.t, .int .i64 (x.n : Int), .int .i64 x.e]
/-- A text behind its first quote: what is read so far, where it goes on. -/
def quoteF : Nat → Str → Str → Nat → Tk3
  | 0, _, _, _ => ⟨tok0, 0, 3⟩
  | m + 1, rest, out, at_ =>
    if Lib.indexByte rest 39 < 0 then ⟨tok0, 0, 3⟩
    else
      let k := (Lib.indexByte rest 39).toNat
      if prefB (rest.drop (k + 1)) [39] then quoteF m (rest.drop (k + 2)) (out ++ rest.take k ++ [39]) (at_ + k + 2)
      else if ((out ++ rest.take k).length : Int) > 40 then ⟨tok0, 0, 2⟩ else ⟨⟨4, out ++ rest.take k, 0, 0⟩, at_ + k + 1, 0⟩
def quotedM (s : Str) : Tk3 := quoteF s.length (s.drop 1) [] 1
def signF : List Str → Str → Tk3
  | [], _ => ⟨tok0, 0, 4⟩
  | x :: xs, s => if prefB s x then ⟨⟨5, x, 0, 0⟩, x.length, 0⟩ else signF xs s
def plain3 (s : Str) (n : Nat) : Tk3 := ⟨(plainM s n).1, n, (plainM s n).2⟩
def tokenM (s : Str) : Tk3 := match s with
  | [] => ⟨tok0, 0, 4⟩
  | c :: r => if (c.toNat : Int) == 39 then quotedM (c :: r) else if firstB c then plain3 (c :: r) (rowN smallB (c :: r))
    else if greatB c then plain3 (c :: r) (rowN greatB (c :: r)) else if digitB c then plain3 (c :: r) (rowN digitB (c :: r)) else signF signsL (c :: r)
theorem token_pc {c : UInt8} {r : Str} (hl : (c :: r).length ≤ 1000000) (hq : Pure Tryz.prog 90 [.str (c :: r)] (tk3PV (quotedM (c :: r)))) :
    Pure Tryz.prog 39 [.str (c :: r)] (tk3PV (tokenM (c :: r))) := by
  have hplain : ∀ n, n ≤ (c :: r).length → Pure Tryz.prog 96 [.str (c :: r), .int .i64 (n : Int)] (.tup [tokPV (plainM (c :: r) n).1, .int .i64 (plainM (c :: r) n).2]) := fun n hn => plain_pc hn hl
  have hget0 : (c :: r)[0]? = some c := rfl
  have htok : tokenM (c :: r) = if (c.toNat : Int) == 39 then quotedM (c :: r) else if firstB c then plain3 (c :: r) (rowN smallB (c :: r))
    else if greatB c then plain3 (c :: r) (rowN greatB (c :: r)) else if digitB c then plain3 (c :: r) (rowN digitB (c :: r)) else signF signsL (c :: r) := rfl
  generalize c :: r = s at hl hq hplain hget0 htok
  refine PC.intro tab_ok Tryz.func39 rfl (by kernel_rfl) Tryz.ntmps39 (Nat.le_of_ble_eq_true rfl) (rs := _) (congrArg Array.toList Tryz.results39) ?_
  refine PW.go tab_ok [] fun K hK => ?_
  simp only [go_sem, ↓reduceIte, reduceCtorEq, Nat.reduceBEq, Nat.reduceAdd, Nat.reduceMul, Nat.reduceSub, Nat.reduceLT, Nat.reduceLeDiff, Nat.reduceEqDiff]
  (refine hK _ _ ?_; (try clear hK); (try clear K))
  refine PW.go tab_ok [] fun K hK => ?_
  simp only [go_sem, ↓reduceIte, reduceCtorEq, Nat.reduceBEq, Nat.reduceAdd, Nat.reduceMul, Nat.reduceSub, Nat.reduceLT, Nat.reduceLeDiff, Nat.reduceEqDiff]
  (refine hK _ _ ?_; (try clear hK); (try clear K))
  refine PW.seq_k fun K0 hK0 => ?_
  refine PW.go tab_ok [] fun K hK => ?_
  simp only [hget0, Int.le_refl, go_sem, ↓reduceIte, reduceCtorEq, Nat.reduceBEq, Nat.reduceAdd, Nat.reduceMul, Nat.reduceSub, Nat.reduceLT, Nat.reduceLeDiff, Nat.reduceEqDiff]
  (refine hK _ _ ?_; (try clear hK); (try clear K))
  have hlast : ∀ {env : Env} {st : St} (n : Nat), n ≤ s.length → Sub env [(5, .int .i64 (n : Int)), (2, .ref 0 0), (0, .str s)] → st = ⟨[[.int .i64 0, .str [], .int .i64 0, .int .i64 0]], []⟩ → tokenM s = plain3 s n → K0 env st := by
    rintro env st n hn hsub rfl he
    refine hK0 _ _ (PW.less _ hsub ?_)
    refine PW.go tab_ok [] fun K hK => ?_
    simp only [go_sem, ↓reduceIte, reduceCtorEq, Nat.reduceBEq, Nat.reduceAdd, Nat.reduceMul, Nat.reduceSub, Nat.reduceLT, Nat.reduceLeDiff, Nat.reduceEqDiff]
    refine (hplain n hn).use (Weaks.refl _) rfl rfl ?_
    refine PO.go tab_ok [] ?_
    simp only [tokPV, go_sem, ↓reduceIte, reduceCtorEq, Nat.reduceBEq, Nat.reduceAdd, Nat.reduceMul, Nat.reduceSub, Nat.reduceLT, Nat.reduceLeDiff, Nat.reduceEqDiff]
    (refine hK _ _ ?_; (try clear hK); (try clear K))
    refine PW.go tab_ok [] fun K hK => ?_
    simp only [go_sem, ↓reduceIte, reduceCtorEq, Nat.reduceBEq, Nat.reduceAdd, Nat.reduceMul, Nat.reduceSub, Nat.reduceLT, Nat.reduceLeDiff, Nat.reduceEqDiff]
    (refine hK _ _ ?_; (try clear hK); (try clear K))
    exact PW.ret (Pure.ret rfl (by rw [he]; rfl) rfl)
  refine PW.block ?_
  refine PW.go tab_ok [] fun K hK => ?_
  simp only [go_sem, ↓reduceIte, reduceCtorEq, Nat.reduceBEq, Nat.reduceAdd, Nat.reduceMul, Nat.reduceSub, Nat.reduceLT, Nat.reduceLeDiff, Nat.reduceEqDiff]
  (refine hK _ _ ?_; (try clear hK); (try clear K))
  refine PW.cond_split (b := (c.toNat : Int) == 39) rfl ?_ ?_ <;> intro hb1
  · refine PW.go tab_ok [] fun K hK => ?_
    simp only [go_sem, ↓reduceIte, reduceCtorEq, Nat.reduceBEq, Nat.reduceAdd, Nat.reduceMul, Nat.reduceSub, Nat.reduceLT, Nat.reduceLeDiff, Nat.reduceEqDiff]
    refine hq.use (Weaks.refl _) rfl rfl ?_
    refine PO.go tab_ok [] ?_
    simp only [tk3PV, tokPV, go_sem, ↓reduceIte, reduceCtorEq, Nat.reduceBEq, Nat.reduceAdd, Nat.reduceMul, Nat.reduceSub, Nat.reduceLT, Nat.reduceLeDiff, Nat.reduceEqDiff]
    (refine hK _ _ ?_; (try clear hK); (try clear K))
    exact PW.ret (Pure.ret rfl (by rw [htok, hb1]; rfl) rfl)
  refine PW.go tab_ok [] fun K hK => ?_
  simp only [go_sem, ↓reduceIte, reduceCtorEq, Nat.reduceBEq, Nat.reduceAdd, Nat.reduceMul, Nat.reduceSub, Nat.reduceLT, Nat.reduceLeDiff, Nat.reduceEqDiff]
  refine (first_pc c).use (Weaks.refl _) rfl rfl ?_
  refine PO.go tab_ok [] ?_
  simp only [go_sem, ↓reduceIte, reduceCtorEq, Nat.reduceBEq, Nat.reduceAdd, Nat.reduceMul, Nat.reduceSub, Nat.reduceLT, Nat.reduceLeDiff, Nat.reduceEqDiff]
  (refine hK _ _ ?_; (try clear hK); (try clear K))
  refine PW.cond_split (b := firstB c) rfl ?_ ?_ <;> intro hb2
  · refine PW.goL tab_ok [] fun K hK => ?_
    simp only [go_sem, ↓reduceIte, reduceCtorEq, Nat.reduceBEq, Nat.reduceAdd, Nat.reduceMul, Nat.reduceSub, Nat.reduceLT, Nat.reduceLeDiff, Nat.reduceEqDiff]
    refine (lexrow_pc small_pc (s := s) (by omega)).use (Weaks.refl _) rfl rfl ?_
    refine PO.go tab_ok [] ?_
    simp only [go_sem, ↓reduceIte, reduceCtorEq, Nat.reduceBEq, Nat.reduceAdd, Nat.reduceMul, Nat.reduceSub, Nat.reduceLT, Nat.reduceLeDiff, Nat.reduceEqDiff]
    (refine hK _ _ ?_; (try clear hK); (try clear K))
    exact hlast _ (rowN_le smallB s) (by simp [Sub, eget]) rfl (by rw [htok, hb1, hb2]; rfl)
  refine PW.go tab_ok [] fun K hK => ?_
  simp only [go_sem, ↓reduceIte, reduceCtorEq, Nat.reduceBEq, Nat.reduceAdd, Nat.reduceMul, Nat.reduceSub, Nat.reduceLT, Nat.reduceLeDiff, Nat.reduceEqDiff]
  refine (great_pc c).use (Weaks.refl _) rfl rfl ?_
  refine PO.go tab_ok [] ?_
  simp only [go_sem, ↓reduceIte, reduceCtorEq, Nat.reduceBEq, Nat.reduceAdd, Nat.reduceMul, Nat.reduceSub, Nat.reduceLT, Nat.reduceLeDiff, Nat.reduceEqDiff]
  (refine hK _ _ ?_; (try clear hK); (try clear K))
  refine PW.cond_split (b := greatB c) rfl ?_ ?_ <;> intro hb3
  · refine PW.goL tab_ok [] fun K hK => ?_
    simp only [go_sem, ↓reduceIte, reduceCtorEq, Nat.reduceBEq, Nat.reduceAdd, Nat.reduceMul, Nat.reduceSub, Nat.reduceLT, Nat.reduceLeDiff, Nat.reduceEqDiff]
    refine (lexrow_pc great_pc (s := s) (by omega)).use (Weaks.refl _) rfl rfl ?_
    refine PO.go tab_ok [] ?_
    simp only [go_sem, ↓reduceIte, reduceCtorEq, Nat.reduceBEq, Nat.reduceAdd, Nat.reduceMul, Nat.reduceSub, Nat.reduceLT, Nat.reduceLeDiff, Nat.reduceEqDiff]
    (refine hK _ _ ?_; (try clear hK); (try clear K))
    exact hlast _ (rowN_le greatB s) (by simp [Sub, eget]) rfl (by rw [htok, hb1, hb2, hb3]; rfl)
  refine PW.go tab_ok [] fun K hK => ?_
  simp only [go_sem, ↓reduceIte, reduceCtorEq, Nat.reduceBEq, Nat.reduceAdd, Nat.reduceMul, Nat.reduceSub, Nat.reduceLT, Nat.reduceLeDiff, Nat.reduceEqDiff]
  refine (digit_pc c).use (Weaks.refl _) rfl rfl ?_
  refine PO.go tab_ok [] ?_
  simp only [go_sem, ↓reduceIte, reduceCtorEq, Nat.reduceBEq, Nat.reduceAdd, Nat.reduceMul, Nat.reduceSub, Nat.reduceLT, Nat.reduceLeDiff, Nat.reduceEqDiff]
  (refine hK _ _ ?_; (try clear hK); (try clear K))
  refine PW.cond_split (b := digitB c) rfl ?_ ?_ <;> intro hb4
  · refine PW.goL tab_ok [] fun K hK => ?_
    simp only [go_sem, ↓reduceIte, reduceCtorEq, Nat.reduceBEq, Nat.reduceAdd, Nat.reduceMul, Nat.reduceSub, Nat.reduceLT, Nat.reduceLeDiff, Nat.reduceEqDiff]
    refine (lexrow_pc digit_pc (s := s) (by omega)).use (Weaks.refl _) rfl rfl ?_
    refine PO.go tab_ok [] ?_
    simp only [go_sem, ↓reduceIte, reduceCtorEq, Nat.reduceBEq, Nat.reduceAdd, Nat.reduceMul, Nat.reduceSub, Nat.reduceLT, Nat.reduceLeDiff, Nat.reduceEqDiff]
    (refine hK _ _ ?_; (try clear hK); (try clear K))
    exact hlast _ (rowN_le digitB s) (by simp [Sub, eget]) rfl (by rw [htok, hb1, hb2, hb3, hb4]; rfl)
  have hts : tokenM s = signF signsL s := by rw [htok, hb1, hb2, hb3, hb4]; rfl
  refine PW.seq_k fun K5 hK5 => ?_
  refine PW.go tab_ok [] fun K hK => ?_
  simp only [go_sem, ↓reduceIte, reduceCtorEq, Nat.reduceBEq, Nat.reduceAdd, Nat.reduceMul, Nat.reduceSub, Nat.reduceLT, Nat.reduceLeDiff, Nat.reduceEqDiff]
  refine signs_pc.use (Weaks.refl _) rfl rfl ?_
  refine PO.go tab_ok [] ?_
  have hsl : (strs signsL).length = 16 := rfl
  simp only [hsl, go_sem, ↓reduceIte, reduceCtorEq, Nat.reduceBEq, Nat.reduceAdd, Nat.reduceMul, Nat.reduceSub, Nat.reduceLT, Nat.reduceLeDiff, Nat.reduceEqDiff]
  (refine hK _ _ ?_; (try clear hK); (try clear K))
  refine PW.block (PW.loop (α := Nat) (fun k => [(15, .int .i64 (k : Int)), (14, .int .i64 (16 : Int)), (13, .list 1 (strs signsL) .no), (2, .ref 0 0), (0, .str s)]) (fun _ => ⟨[[.int .i64 0, .str [], .int .i64 0, .int .i64 0]], []⟩)
    (fun k => k ≤ 16 ∧ signF (signsL.drop k) s = signF signsL s) (fun k => 16 - k) 0 ⟨Nat.zero_le _, rfl⟩ ?_ rfl (fun _ _ => ⟨rfl, rfl⟩) ?_)
  · simp [Sub, eget]
  rintro k ⟨hk, he⟩
  refine PW.go tab_ok [] fun K hK => ?_
  simp only [go_sem, ↓reduceIte, reduceCtorEq, Nat.reduceBEq, Nat.reduceAdd, Nat.reduceMul, Nat.reduceSub, Nat.reduceLT, Nat.reduceLeDiff, Nat.reduceEqDiff]
  (refine hK _ _ ?_; (try clear hK); (try clear K))
  refine PW.seq_k fun K2 hK2 => ?_
  refine PW.cond_split (b := decide ((k : Int) < 16)) rfl ?_ ?_ <;> intro hb
  · have hlt : k < signsL.length := by
      have : (k : Int) < 16 := by simpa using hb
      show k < 16
      omega
    have hlt' : k < 16 := hlt
    have h0 : (0 : Int) ≤ (k : Int) := by omega
    have hget : (strs signsL)[((k : Int)).toNat]? = some (.str signsL[k]) := by rw [Int.toNat_natCast, strs, List.getElem?_map, List.getElem?_eq_getElem hlt]; rfl
    have hdr : signsL.drop k = signsL[k] :: signsL.drop (k + 1) := List.drop_eq_getElem_cons hlt
    refine PW.skip (hK2 _ _ ?_)
    clear hK2 K2
    refine PW.seq_k fun K3 hK3 => PW.block ?_
    generalize signsL[k] = x at hget hdr
    rw [hdr] at he
    refine PW.go tab_ok [] fun K hK => ?_
    simp only [h0, hget, go_sem, ↓reduceIte, reduceCtorEq, Nat.reduceBEq, Nat.reduceAdd, Nat.reduceMul, Nat.reduceSub, Nat.reduceLT, Nat.reduceLeDiff, Nat.reduceEqDiff]
    (refine hK _ _ ?_; (try clear hK); (try clear K))
    refine PW.go tab_ok [] fun K hK => ?_
    simp only [go_sem, ↓reduceIte, reduceCtorEq, Nat.reduceBEq, Nat.reduceAdd, Nat.reduceMul, Nat.reduceSub, Nat.reduceLT, Nat.reduceLeDiff, Nat.reduceEqDiff]
    refine (hasPrefix_pc s x).use (Weaks.refl _) rfl rfl ?_
    refine PO.go tab_ok [] ?_
    simp only [go_sem, ↓reduceIte, reduceCtorEq, Nat.reduceBEq, Nat.reduceAdd, Nat.reduceMul, Nat.reduceSub, Nat.reduceLT, Nat.reduceLeDiff, Nat.reduceEqDiff]
    (refine hK _ _ ?_; (try clear hK); (try clear K))
    refine PW.cond_split (b := prefB s x) rfl ?_ ?_ <;> intro hb5
    · refine PW.go tab_ok [] fun K hK => ?_
      simp only [go_sem, ↓reduceIte, reduceCtorEq, Nat.reduceBEq, Nat.reduceAdd, Nat.reduceMul, Nat.reduceSub, Nat.reduceLT, Nat.reduceLeDiff, Nat.reduceEqDiff]
      (refine hK _ _ ?_; (try clear hK); (try clear K))
      refine PW.ret (Pure.ret rfl ?_ rfl)
      rw [hts, ← he]
      simp only [signF, hb5, if_true]
      rfl
    · refine PW.skip (hK3 _ _ ?_)
      have hw : IntKind.i64.wrap ((k : Int) + 1) = ((k + 1 : Nat) : Int) := by
        rw [show (k : Int) + 1 = ((k + 1 : Nat) : Int) from by omega]
        exact wrap_nat (by omega)
      refine PW.goL tab_ok [] fun K hK => ?_
      simp only [go_sem, ↓reduceIte, reduceCtorEq, Nat.reduceBEq, Nat.reduceAdd, Nat.reduceMul, Nat.reduceSub, Nat.reduceLT, Nat.reduceLeDiff, Nat.reduceEqDiff]
      (refine hK _ _ ?_; (try clear hK); (try clear K))
      refine ⟨k + 1, ⟨by omega, ?_⟩, by omega, by simp [Sub, eget, hw], ?_, by simp [Env.clean, PV.clean, PVs.clean_data (strs_clean signsL)]⟩
      · rw [← he]
        simp [signF, hb5]
      · exact ⟨by simp [Weaks.refl, PV.isCell], rfl, by simp [PVs.clean, PV.clean]⟩
  · have hge : k = 16 := by
      have : ¬ (k : Int) < 16 := by simpa using hb
      omega
    subst hge
    have hnone : tokenM s = ⟨tok0, 0, 4⟩ := by rw [hts, ← he]; rfl
    refine PW.exit (hK5 _ _ ?_)
    refine PW.go tab_ok [] fun K hK => ?_
    simp only [go_sem, ↓reduceIte, reduceCtorEq, Nat.reduceBEq, Nat.reduceAdd, Nat.reduceMul, Nat.reduceSub, Nat.reduceLT, Nat.reduceLeDiff, Nat.reduceEqDiff]
    (refine hK _ _ ?_; (try clear hK); (try clear K))
    exact PW.ret (Pure.ret rfl (by rw [hnone]; rfl) rfl)
end Go.Proofs.YtpepmfhemjeocaaGreatDoor
end
section
/- The lexer: all tokens. -/
set_option linter.unusedVariables false
set_option linter.unusedSimpArgs false
namespace Go.Proofs.YtpepmfhemjeocaaGreatDoor
open Go

theorem indexByte_lt : ∀ (l : Str) (c : UInt8), -1 ≤ Lib.indexByte l c ∧ Lib.indexByte l c < l.length
  | [], c => by simp [Lib.indexByte]
  | b :: l, c => by
    have := indexByte_lt l c
    simp only [Lib.indexByte, List.length_cons]
    split
    · omega
    · split
      · omega
      · omega
theorem quoteF_le : ∀ (m : Nat) (rest out : Str) (a : Nat), (quoteF m rest out a).e = 0 → a < (quoteF m rest out a).n ∧ (quoteF m rest out a).n ≤ a + rest.length
  | 0, rest, out, a, h => by simp [quoteF] at h
  | m + 1, rest, out, a, h => by
    have hi := indexByte_lt rest 39
    unfold quoteF at h ⊢
    split at h
    · simp at h
    · rename_i h1
      rw [if_neg h1]
      simp only at h ⊢
      split at h
      · rename_i h2
        rw [if_pos h2]
        have := quoteF_le m _ _ _ h
        simp only [List.length_drop] at this
        have h3 : 1 ≤ (rest.drop ((Lib.indexByte rest 39).toNat + 1)).length := by
          simp only [prefB, Bool.and_eq_true, decide_eq_true_eq] at h2
          have := h2.1
          simp at this
          simp
          omega
        simp only [List.length_drop] at h3
        omega
      · rename_i h2
        rw [if_neg h2]
        split at h
        · simp at h
        · rename_i h4
          rw [if_neg h4]
          simp only
          omega
theorem signF_le : ∀ (l : List Str) (s : Str), (∀ x ∈ l, x ≠ []) → (signF l s).e = 0 → 1 ≤ (signF l s).n ∧ (signF l s).n ≤ s.length
  | [], s, _, h => by simp [signF] at h
  | x :: l, s, hl, h => by
    unfold signF at h ⊢
    split
    · rename_i hp
      have hx := hl x (by simp)
      simp only [prefB, Bool.and_eq_true, decide_eq_true_eq] at hp
      have h1 := hp.1
      have : x.length ≠ 0 := by simpa using hx
      simp only
      omega
    · rename_i hp
      rw [if_neg hp] at h
      exact signF_le l s (fun y hy => hl y (by simp [hy])) h
theorem rowN_pos {p : UInt8 → Bool} {c : UInt8} {r : Str} (h : p c = true) : 1 ≤ rowN p (c :: r) := by
  simp [rowN, h]
theorem tokenM_le {s : Str} (hs : s ≠ []) (h : (tokenM s).e = 0) : 1 ≤ (tokenM s).n ∧ (tokenM s).n ≤ s.length := by
  cases s with
  | nil => exact absurd rfl hs
  | cons c r =>
    unfold tokenM at h ⊢
    simp only at h ⊢
    split
    · rename_i h1
      rw [if_pos h1] at h
      have := quoteF_le _ _ _ _ h
      simp only [quotedM, List.length_drop, List.length_cons] at this ⊢
      omega
    · rename_i h1
      rw [if_neg h1] at h
      split
      · rename_i h2
        exact ⟨rowN_pos (by simp [smallB, h2]), rowN_le _ _⟩
      · rename_i h2
        rw [if_neg h2] at h
        split
        · rename_i h3
          exact ⟨rowN_pos h3, rowN_le _ _⟩
        · rename_i h3
          rw [if_neg h3] at h
          split
          · rename_i h4
            exact ⟨rowN_pos h4, rowN_le _ _⟩
          · rename_i h4
            rw [if_neg h4] at h
            exact signF_le signsL _ (by decide) h
def lexF : Nat → Str → Nat → List Tok → List Tok × Ft
  | 0, _, _, _ => ([], ⟨0, 0⟩)
  | n + 1, rest, a, acc =>
    if rest.drop (blankN rest) = [] then (acc ++ [⟨6, [], 0, ((a + blankN rest : Nat) : Int)⟩], ⟨0, 0⟩)
    else if (tokenM (rest.drop (blankN rest))).e ≠ 0 then ([], ⟨(tokenM (rest.drop (blankN rest))).e, ((a + blankN rest : Nat) : Int)⟩)
    else lexF n (rest.drop (blankN rest + (tokenM (rest.drop (blankN rest))).n)) (a + blankN rest + (tokenM (rest.drop (blankN rest))).n)
      (acc ++ [{ (tokenM (rest.drop (blankN rest))).t with at_ := ((a + blankN rest : Nat) : Int) }])
def lexM (s : Str) : List Tok × Ft := if (s.length : Int) > 2000 then ([], ⟨2, -1⟩) else lexF (s.length + 1) s 0 []
theorem tokens_pc {s : Str} (hq : ∀ r : Str, r ≠ [] → r.length ≤ 2000 → Pure Tryz.prog 90 [.str r] (tk3PV (quotedM r))) :
    Pure Tryz.prog 19 [.str s] (.tup [toksPV (lexM s).1, ftPV (lexM s).2]) := by
  have hcl : PV.clean 0 0 (.tup [toksPV (lexM s).1, ftPV (lexM s).2]) = true := by simp [PV.clean, PVs.clean, toks_clean]; rfl
  refine PC.intro tab_ok Tryz.func19 rfl (by kernel_rfl) Tryz.ntmps19 (Nat.le_of_ble_eq_true rfl) (rs := _) (congrArg Array.toList Tryz.results19) ?_
  refine PW.go tab_ok [] fun K hK => ?_
  simp only [go_sem, ↓reduceIte, reduceCtorEq, Nat.reduceBEq, Nat.reduceAdd, Nat.reduceMul, Nat.reduceSub, Nat.reduceLT, Nat.reduceLeDiff, Nat.reduceEqDiff]
  (refine hK _ _ ?_; (try clear hK); (try clear K))
  refine PW.seq_k fun K0 hK0 => ?_
  refine PW.go tab_ok [] fun K hK => ?_
  simp only [go_sem, ↓reduceIte, reduceCtorEq, Nat.reduceBEq, Nat.reduceAdd, Nat.reduceMul, Nat.reduceSub, Nat.reduceLT, Nat.reduceLeDiff, Nat.reduceEqDiff]
  (refine hK _ _ ?_; (try clear hK); (try clear K))
  refine PW.cond_split (b := decide ((s.length : Int) > 2000)) rfl ?_ ?_ <;> intro hb
  · have h2 : (s.length : Int) > 2000 := by simpa using hb
    refine PW.go tab_ok [] fun K hK => ?_
    simp only [go_sem, ↓reduceIte, reduceCtorEq, Nat.reduceBEq, Nat.reduceAdd, Nat.reduceMul, Nat.reduceSub, Nat.reduceLT, Nat.reduceLeDiff, Nat.reduceEqDiff]
    (refine hK _ _ ?_; (try clear hK); (try clear K))
    refine PW.ret (Pure.finw (.inl rfl) rfl ?_ hcl)
    simp only [lexM, if_pos h2, resPV]
    exact Weak.tup (.cons (Weak.nil _ _ _) (.cons (.refl _) .nil))
  have h2 : ¬ (s.length : Int) > 2000 := by simpa using hb
  have hlex : lexM s = lexF (s.length + 1) s 0 [] := by simp only [lexM, if_neg h2]
  refine PW.skip (hK0 _ _ ?_)
  clear hK0 K0
  refine PW.go tab_ok [] fun K hK => ?_
  simp only [go_sem, ↓reduceIte, reduceCtorEq, Nat.reduceBEq, Nat.reduceAdd, Nat.reduceMul, Nat.reduceSub, Nat.reduceLT, Nat.reduceLeDiff, Nat.reduceEqDiff]
  (refine hK _ _ ?_; (try clear hK); (try clear K))
  refine PW.go tab_ok [] fun K hK => ?_
  simp only [go_sem, ↓reduceIte, reduceCtorEq, Nat.reduceBEq, Nat.reduceAdd, Nat.reduceMul, Nat.reduceSub, Nat.reduceLT, Nat.reduceLeDiff, Nat.reduceEqDiff]
  (refine hK _ _ ?_; (try clear hK); (try clear K))
  refine PW.adopt ?_
  refine PW.less [(5, .int .i64 0), (4, .list 4 [] (.own 0)), (3, .ref 0 0), (0, .str s)] (by simp [Sub, eget, Weak.nil]) ?_
  refine PW.block (PW.loop (α := Nat × Nat × List Tok) (fun x => [(5, .int .i64 (x.2.1 : Int)), (4, .list 4 (x.2.2.map tokPV) (.own 0)), (3, .ref 0 0), (0, .str s)]) (fun x => ⟨[[.int .i64 0, .int .i64 0]], [x.2.2.length]⟩)
    (fun x => x.2.1 ≤ s.length ∧ s.length - x.2.1 < x.1 ∧ x.2.2.length ≤ x.2.1 ∧ lexF x.1 (s.drop x.2.1) x.2.1 x.2.2 = lexM s) (fun x => x.1) (s.length + 1, 0, []) ⟨Nat.zero_le _, by simp, Nat.zero_le _, by rw [hlex]; rfl⟩ ?_ rfl (fun _ _ => ⟨rfl, rfl⟩) ?_)
  · simp [Sub, eget]
  rintro ⟨n, a, acc⟩ ⟨ha, hn, hacc, he⟩
  simp only at ha hn hacc he
  obtain ⟨m, rfl⟩ : ∃ m, n = m + 1 := ⟨n - 1, by omega⟩
  have h0 : (0 : Int) ≤ (a : Int) := by omega
  have h0' : (a : Int) ≤ (s.length : Int) := by omega
  have hs2 : s.length ≤ 2000 := by omega
  have hbl : blankN (s.drop a) ≤ s.length - a := by have := blankN_le (s.drop a); simpa using this
  have hw : IntKind.i64.wrap ((a : Int) + (blankN (s.drop a) : Int)) = ((a + blankN (s.drop a) : Nat) : Int) := by
    rw [show (a : Int) + (blankN (s.drop a) : Int) = ((a + blankN (s.drop a) : Nat) : Int) from by omega]
    exact wrap_nat (by omega)
  have hfit : (acc.length + 1) * 40 ≤ 140737488355328 := by omega
  have hmax : acc.length + 1 ≤ maxLen := by unfold maxLen; omega
  refine PW.block ?_
  refine PW.go tab_ok [] fun K hK => ?_
  simp only [h0, h0', Int.toNat_natCast, go_sem, ↓reduceIte, reduceCtorEq, Nat.reduceBEq, Nat.reduceAdd, Nat.reduceMul, Nat.reduceSub, Nat.reduceLT, Nat.reduceLeDiff, Nat.reduceEqDiff]
  refine (blanks_pc (s := s.drop a) (by simp; omega)).use (Weaks.refl _) rfl rfl ?_
  refine PO.go tab_ok [] ?_
  simp only [hw, go_sem, ↓reduceIte, reduceCtorEq, Nat.reduceBEq, Nat.reduceAdd, Nat.reduceMul, Nat.reduceSub, Nat.reduceLT, Nat.reduceLeDiff, Nat.reduceEqDiff]
  (refine hK _ _ ?_; (try clear hK); (try clear K))
  have hdd : (s.drop a).drop (blankN (s.drop a)) = s.drop (a + blankN (s.drop a)) := by rw [List.drop_drop]
  simp only [lexF] at he
  rw [hdd] at he
  generalize blankN (s.drop a) = k at hbl hw hdd he ⊢
  refine PW.seq_k fun K0 hK0 => ?_
  refine PW.go tab_ok [] fun K hK => ?_
  simp only [go_sem, ↓reduceIte, reduceCtorEq, Nat.reduceBEq, Nat.reduceAdd, Nat.reduceMul, Nat.reduceSub, Nat.reduceLT, Nat.reduceLeDiff, Nat.reduceEqDiff]
  (refine hK _ _ ?_; (try clear hK); (try clear K))
  refine PW.cond_split (b := (((a + k : Nat) : Int) == (s.length : Int))) rfl ?_ ?_ <;> intro hb1
  · have h1 : a + k = s.length := by have : ((a + k : Nat) : Int) = (s.length : Int) := by simpa using hb1
                                     omega
    have hnil : s.drop (a + k) = [] := List.drop_eq_nil_of_le (by omega)
    rw [if_pos hnil] at he
    refine PW.go tab_ok [] fun K hK => ?_
    simp only [hfit, hmax, tokPV, go_sem, ↓reduceIte, reduceCtorEq, Nat.reduceBEq, Nat.reduceAdd, Nat.reduceMul, Nat.reduceSub, Nat.reduceLT, Nat.reduceLeDiff, Nat.reduceEqDiff]
    (refine hK _ _ ?_; (try clear hK); (try clear K))
    refine PW.ret (Pure.finw (.inl rfl) rfl ?_ hcl)
    rw [← he]
    simp only [resPV]
    refine Weak.tup (.cons ?_ (.cons (.refl _) .nil))
    have : toksPV (acc ++ [⟨6, [], 0, ((a + k : Nat) : Int)⟩]) = .list 4 (acc.map tokPV ++ [tokPV ⟨6, [], 0, ((a + k : Nat) : Int)⟩]) .no := by simp [toksPV]
    rw [this]
    exact Weak.no _ _ _
  have h1 : a + k < s.length := by
    have : ¬ ((a + k : Nat) : Int) = (s.length : Int) := by simpa using hb1
    omega
  have hne : s.drop (a + k) ≠ [] := by simp; omega
  rw [if_neg hne] at he
  have h3 : (0 : Int) ≤ ((a + k : Nat) : Int) := by omega
  have h3' : ((a + k : Nat) : Int) ≤ (s.length : Int) := by omega
  have htk : Pure Tryz.prog 39 [.str (s.drop (a + k))] (tk3PV (tokenM (s.drop (a + k)))) := by
    have hqq := hq (s.drop (a + k)) hne (by simp; omega)
    cases hc : s.drop (a + k) with
    | nil => exact absurd hc hne
    | cons c r =>
      rw [hc] at hqq
      exact token_pc (by rw [← hc]; simp; omega) hqq
  have htl := tokenM_le hne
  generalize tokenM (s.drop (a + k)) = x at he htk htl
  refine PW.skip (hK0 _ _ ?_)
  clear hK0 K0
  refine PW.go tab_ok [] fun K hK => ?_
  simp only [h3, h3', Int.toNat_natCast, go_sem, ↓reduceIte, reduceCtorEq, Nat.reduceBEq, Nat.reduceAdd, Nat.reduceMul, Nat.reduceSub, Nat.reduceLT, Nat.reduceLeDiff, Nat.reduceEqDiff]
  refine htk.use (Weaks.refl _) rfl rfl ?_
  refine PO.go tab_ok [] ?_
  simp only [tk3PV, tokPV, go_sem, ↓reduceIte, reduceCtorEq, Nat.reduceBEq, Nat.reduceAdd, Nat.reduceMul, Nat.reduceSub, Nat.reduceLT, Nat.reduceLeDiff, Nat.reduceEqDiff]
  (refine hK _ _ ?_; (try clear hK); (try clear K))
  refine PW.seq_k fun K0 hK0 => ?_
  refine PW.go tab_ok [] fun K hK => ?_
  simp only [go_sem, ↓reduceIte, reduceCtorEq, Nat.reduceBEq, Nat.reduceAdd, Nat.reduceMul, Nat.reduceSub, Nat.reduceLT, Nat.reduceLeDiff, Nat.reduceEqDiff]
  (refine hK _ _ ?_; (try clear hK); (try clear K))
  refine PW.cond_split (b := x.e != 0) rfl ?_ ?_ <;> intro hb2
  · have h4 : x.e ≠ 0 := by simpa using hb2
    rw [if_pos h4] at he
    refine PW.go tab_ok [] fun K hK => ?_
    simp only [go_sem, ↓reduceIte, reduceCtorEq, Nat.reduceBEq, Nat.reduceAdd, Nat.reduceMul, Nat.reduceSub, Nat.reduceLT, Nat.reduceLeDiff, Nat.reduceEqDiff]
    (refine hK _ _ ?_; (try clear hK); (try clear K))
    refine PW.ret (Pure.finw (.inl rfl) rfl ?_ hcl)
    rw [← he]
    simp only [resPV]
    exact Weak.tup (.cons (Weak.nil _ _ _) (.cons (.refl _) .nil))
  have h4 : x.e = 0 := by simpa using hb2
  have h4' : ¬ x.e ≠ 0 := by simp [h4]
  rw [if_neg h4'] at he
  obtain ⟨h5, h6⟩ := htl h4
  simp only [List.length_drop] at h6
  have hw2 : IntKind.i64.wrap (((a + k : Nat) : Int) + (x.n : Int)) = ((a + k + x.n : Nat) : Int) := by
    rw [show ((a + k : Nat) : Int) + (x.n : Int) = ((a + k + x.n : Nat) : Int) from by omega]
    exact wrap_nat (by omega)
  refine PW.skip (hK0 _ _ ?_)
  clear hK0 K0
  refine PW.go tab_ok [] fun K hK => ?_
  simp only [go_sem, ↓reduceIte, reduceCtorEq, Nat.reduceBEq, Nat.reduceAdd, Nat.reduceMul, Nat.reduceSub, Nat.reduceLT, Nat.reduceLeDiff, Nat.reduceEqDiff]
  (refine hK _ _ ?_; (try clear hK); (try clear K))
  refine PW.goL tab_ok [] fun K hK => ?_
  simp only [hfit, hmax, hw2, go_sem, ↓reduceIte, reduceCtorEq, Nat.reduceBEq, Nat.reduceAdd, Nat.reduceMul, Nat.reduceSub, Nat.reduceLT, Nat.reduceLeDiff, Nat.reduceEqDiff]
  (refine hK _ _ ?_; (try clear hK); (try clear K))
  refine ⟨(m, a + k + x.n, acc ++ [{ x.t with at_ := ((a + k : Nat) : Int) }]), ⟨?_, ?_, ?_, ?_⟩, by simp, ?_, ?_, ?_⟩
  · simp only; omega
  · simp only; omega
  · simp; omega
  · simp only
    rw [← he, List.drop_drop, Nat.add_assoc]
  · simp [Sub, eget, tokPV]
  · exact ⟨by simp [PV.isCell], by simp, by simp [PVs.clean, PV.clean]⟩
  · have hcm : ∀ l : List Tok, PVs.clean 1 1 (l.map tokPV) = true := fun l => clean_map (tok_clean 1 1) l
    simp only [Env.clean, PV.clean, List.length_cons, List.length_nil, List.nil_append, Nat.zero_add, hcm]
    rfl
end Go.Proofs.YtpepmfhemjeocaaGreatDoor
end
section
/- The lexer at the machine: a quoted text. -/
set_option linter.unusedVariables false
set_option linter.unusedSimpArgs false
namespace Go.Proofs.YtpepmfhemjeocaaGreatDoor
open Go Go.Proofs Go.RowKit

def tokV (t : Tok) : Value := .agg #[.int .i64 t.kind, .string ⟨t.text.toArray⟩, .int .i64 t.num, .int .i64 t.at_]
def tk3V (x : Tk3) : Value := .tuple #[tokV x.t, .int .i64 (x.n : Int), .int .i64 x.e]
theorem ext_drop (l : Str) (k : Nat) : ((⟨l.toArray⟩ : ByteArray).extract k l.length).data.toList = l.drop k := Lib.extract_to_end ⟨l.toArray⟩ k
theorem ext_take (l : Str) (k i : Nat) : ((⟨l.toArray⟩ : ByteArray).extract k (k + i)).data.toList = (l.drop k).take i := by
  rw [Lib.extract_data]
  congr 1
  omega
theorem index_w (l : Str) (k : Nat) (j : Int) (w : World) (hj : Lib.indexByte (l.drop k) 39 = j) :
    Calls Tryz.prog 143 #[.string ((⟨l.toArray⟩ : ByteArray).extract k l.length), .int .u8 39] w fun e w' => e = .returned (.int .i64 j) ∧ w' = w := by
  refine (Tryz.strings_IndexByte _ _ _).mono ?_
  rintro e w' ⟨rfl, rfl⟩
  rw [ext_drop, show (39 : Int).toNat.toUInt8 = 39 from rfl, hj]
  exact ⟨rfl, rfl⟩
theorem prefix_w (l : Str) (k : Nat) (b : Bool) (w : World) (hb : prefB (l.drop k) [39] = b) :
    Calls Tryz.prog 87 #[.string ((⟨l.toArray⟩ : ByteArray).extract k l.length), .string ⟨#[39]⟩] w fun e w' => e = .returned (.bool b) ∧ w' = w := by
  refine (Tryz.strings_HasPrefix _ _ _).mono ?_
  rintro e w' ⟨rfl, rfl⟩
  refine ⟨?_, rfl⟩
  congr 2
  rw [ext_drop, ← hb]
  generalize l.drop k = s
  cases s with
  | nil => rfl
  | cons x s =>
    simp only [prefB, Lib.hasPrefix, List.isPrefixOf, List.isPrefixOf_nil_left, List.length_cons, List.length_nil, List.take_succ_cons, List.take_zero, Bool.and_true]
    rw [decide_eq_true (by omega), Bool.true_and]
    by_cases h : x = 39
    · subst h; rfl
    · have h' : ¬ 39 = x := fun e => h e.symm
      have h2 : ([x] == [39]) = false := beq_eq_false_iff_ne.2 fun e => h (List.cons.inj e).1
      rw [h2, beq_eq_false_iff_ne.2 h']
theorem string_w (l : Str) (k i : Nat) (B b : Nat) (out : Str) (w : World) (h : Lib.IsBuilderF 124 5 B b (Lib.byteCells out) w) (hl : out.length ≤ 100000) (hk : l.length ≤ 100000) (hBw : B ≤ w.heap.size) :
    Calls Tryz.prog 100 #[.pointer (some ⟨b, 0, none⟩), .string ((⟨l.toArray⟩ : ByteArray).extract k (k + i))] w fun e w' => (∃ n : Int, e = .returned (.tuple #[.int .i64 n, .nilIface])) ∧ Lib.IsBuilderF 124 5 B b (Lib.byteCells (out ++ (l.drop k).take i)) w' ∧ Below B w w' := by
  have hsz : ((⟨l.toArray⟩ : ByteArray).extract k (k + i)).size ≤ l.length := by
    have := congrArg List.length (ext_take l k i)
    simp only [List.length_take, List.length_drop, Array.length_toList] at this
    show ((⟨l.toArray⟩ : ByteArray).extract k (k + i)).data.size ≤ _
    omega
  refine (sb_string B b _ _ w h (by rw [Lib.byteCells_length]; omega) hBw).mono ?_
  rintro e w' ⟨rfl, h1, h2⟩
  refine ⟨⟨_, rfl⟩, .inr ?_, h2⟩
  rw [Lib.byteCells_append]
  have : Lib.strCells ((⟨l.toArray⟩ : ByteArray).extract k (k + i)) = Lib.byteCells ((l.drop k).take i) := by
    rw [← ext_take]
    rfl
  rw [← this]
  exact h1

theorem bcell {W w1 : World} {n : Nat} (hb : Below n W w1) : (∀ b o, b < n → w1.cell? ⟨b, o, none⟩ = W.cell? ⟨b, o, none⟩) ∧ (∀ b o, b < n → w1.frozen? ⟨b, o, none⟩ = W.frozen? ⟨b, o, none⟩) :=
  ⟨fun b o h => hb.cell (p := ⟨b, o, none⟩) h, fun b o h => hb.frozen (p := ⟨b, o, none⟩) h⟩
set_option maxHeartbeats 4000000 in
set_option maxRecDepth 1000000 in
theorem quoted_walk (l : Str) (w : World) (h0 : 1 ≤ l.length) (hn : l.length ≤ 2000) :
    Calls Tryz.prog 90 #[.string ⟨l.toArray⟩] w fun e w' => e = .returned (tk3V (quotedM l)) ∧ Below w.heap.size w w' := by
  have hsz : (⟨l.toArray⟩ : ByteArray).size = l.length := rfl
  go_enter Tryz.func90, Tryz.ntmps90
  go_wp2
  go_loopw [6] (fun a wr => ∃ (k m : Nat) (out : Str), a = .int .i64 (k : Int) ∧ k ≤ l.length ∧ l.length - k < m ∧ quoteF m (l.drop k) out k = quotedM l ∧ out.length ≤ k ∧ Lib.IsBuilderF 124 5 (w.heap.size + 1) (w.heap.size + 1) (Lib.byteCells out) wr ∧ Below (w.heap.size + 1) (w.alloc (.cells #[.int .i64 0, .string ⟨#[]⟩, .int .i64 0, .int .i64 0] 81)) wr) (fun a _ => l.length - (intOf a).toNat)
  case atStart =>
    refine ⟨1, l.length, [], rfl, h0, by omega, rfl, by simp, ?_, (Below.refl _ _).alloc (by simp) _⟩
    have hf := Lib.fresh_isBuilder 124 5 (w.alloc (.cells #[.int .i64 0, .string ⟨#[]⟩, .int .i64 0, .int .i64 0] 81))
    have hbc : Lib.byteCells [] = [] := rfl
    rw [hbc]
    simpa using Lib.IsBuilderF.of hf
  case round =>
    obtain ⟨k, m, out, rfl, hk, hm, hq, ho, hI, hb⟩ := hrel
    obtain ⟨hc, hf⟩ := bcell hb
    obtain ⟨m, rfl⟩ : ∃ m', m = m' + 1 := ⟨m - 1, by omega⟩
    have hQ : Hid (quoteF (m + 1) (l.drop k) out k = quotedM l) := hq
    clear hq
    have hlt := indexByte_lt (l.drop k) 39
    have hlen : (l.drop k).length = l.length - k := by simp
    obtain ⟨j, hj⟩ : ∃ j : Int, Lib.indexByte (l.drop k) 39 = j := ⟨_, rfl⟩
    rw [hj, hlen] at hlt
    have HJ : Hid (Lib.indexByte (l.drop k) 39 = j) := hj
    clear hj hlen
    have HS : Hid ((⟨l.toArray⟩ : ByteArray).size = l.length) := hsz
    clear hsz
    by_cases hj0 : j < 0
    · have hjd : decide (j < 0) = true := by simpa using hj0
      have hQ2 : Hid (quotedM l = ⟨tok0, 0, 3⟩) := by
        have h1 := hQ.out
        have h2 := HJ.out
        unfold quoteF at h1
        rw [h2, if_pos hj0] at h1
        exact h1.symm
      go_wp2_with (go_at_call 143; refine (index_w l k j _ HJ.out).mono ?_; rintro e w' ⟨rfl, rfl⟩)
      refine bodyPost_ret (v := tk3V ⟨tok0, 0, 3⟩) (by simp [results, Tryz.results90, go_sem, tk3V, tokV, tok0, hc]) rfl ⟨by rw [hQ2.out], ?_⟩
      exact ((((((Below.refl _ w).alloc (Nat.le_refl _) _).trans (hb.mono (Nat.le_succ _))).setCell (Nat.le_refl _) _).setCell (Nat.le_refl _) _).setCell (Nat.le_refl _) _).setCell (Nat.le_refl _) _
    · obtain ⟨i, rfl⟩ : ∃ i : Nat, j = (i : Int) := ⟨j.toNat, by omega⟩
      have hjd : decide ((i : Int) < 0) = false := by simp
      have hBw : w.heap.size + 1 ≤ wr.heap.size := by have := hb.size; simpa using this
      obtain ⟨b, HP⟩ : ∃ b : Bool, Hid (prefB (l.drop (k + (i + 1))) [39] = b) := ⟨_, rfl⟩
      have hs1 : ∀ w : World, (Instr.slice 9 (.string ⟨l.toArray⟩) (some (.int .i64 (k : Int))) (some (.int .i64 ((k : Int) + (i : Int)))) none).run Tryz.prog w = .ok (.string ((⟨l.toArray⟩ : ByteArray).extract k (k + i))) w := fun w => by
        rw [run_slice_string _ _ _ _ _ _ _ Tryz.underlying9 (by omega) (by omega) (by rw [HS.out]; omega), show ((k : Int) + (i : Int)).toNat = k + i from by omega, Int.toNat_natCast]
      have hs2 : ∀ w : World, (Instr.slice 9 (.string ⟨l.toArray⟩) (some (.int .i64 ((k : Int) + ((i : Int) + 1)))) none none).run Tryz.prog w = .ok (.string ((⟨l.toArray⟩ : ByteArray).extract (k + (i + 1)) l.length)) w := fun w => by
        rw [run_slice_string_from_if _ _ _ _ _ Tryz.underlying9, if_pos (by rw [HS.out]; omega), show ((k : Int) + ((i : Int) + 1)).toNat = k + (i + 1) from by omega, HS.out]
      go_wp2_with (first | (go_at_call 143; refine (index_w l k i _ HJ.out).mono ?_; rintro e w' ⟨rfl, rfl⟩) | (go_at_call 100; refine (string_w l k i _ _ out _ hI (by omega) (by omega) hBw).mono ?_))
      rintro e w1 ⟨⟨n, rfl⟩, hI1, hb1⟩
      clear hs1 hI
      have hb2 := hb.trans hb1
      clear hb hb1 hc hf
      obtain ⟨hc, hf⟩ := bcell hb2
      cases b with
      | true =>
        go_wp2_with (go_at_call 87; refine (prefix_w l (k + (i + 1)) true _ HP.out).mono ?_; rintro e w' ⟨rfl, rfl⟩)
        have hBw1 : w.heap.size + 1 ≤ w'.heap.size := by have := hb2.size; simpa using this
        refine (sb_byte (w.heap.size + 1) (w.heap.size + 1) _ 39 _ hI1 (by rw [Lib.byteCells_length]; simp; omega) hBw1).mono ?_
        rintro e w2 ⟨rfl, hI2, hb3⟩
        have hb4 := hb2.trans hb3
        clear hb2 hb3 hc hf hI1
        obtain ⟨hc, hf⟩ := bcell hb4
        go_wp2
        go_roundw
        case rel =>
          have h1 := hQ.out
          have h2 := HP.out
          unfold quoteF at h1
          rw [HJ.out, if_neg (by omega)] at h1
          simp only [Int.toNat_natCast, List.drop_drop] at h1
          rw [h2, if_pos rfl] at h1
          have h3 : 1 ≤ (l.drop (k + (i + 1))).length := by
            cases hd : l.drop (k + (i + 1)) with
            | nil => rw [hd] at h2; cases h2
            | cons => simp
          simp only [List.length_drop] at h3
          refine ⟨k + i + 2, m, out ++ (l.drop k).take i ++ [39], by go_num, by omega, by omega, ?_, ?_, ?_, hb4⟩
          · rw [show k + i + 2 = k + (i + 2) from by omega]
            exact h1
          · simp; omega
          · rw [Lib.byteCells_append]; exact .inr hI2
        case measure => simp [intOf]; omega
      | false =>
        go_wp2_with (go_at_call 87; refine (prefix_w l (k + (i + 1)) false _ HP.out).mono ?_; rintro e w' ⟨rfl, rfl⟩)
        have hBw1 : w.heap.size + 1 ≤ w'.heap.size := by have := hb2.size; simpa using this
        have hbl : (Lib.byteCells (out ++ (l.drop k).take i)).length = out.length + min i (l.length - k) := by rw [Lib.byteCells_length]; simp
        have h1 := hQ.out
        have h2 := HP.out
        unfold quoteF at h1
        rw [HJ.out, if_neg (by omega)] at h1
        simp only [Int.toNat_natCast, List.drop_drop] at h1
        rw [h2] at h1
        simp only [Bool.false_eq_true, if_false, List.length_append, List.length_take, List.length_drop] at h1
        obtain ⟨q, hq⟩ : ∃ q : Nat, q = out.length + min i (l.length - k) := ⟨_, rfl⟩
        rw [← hq] at h1 hbl
        have hql : q ≤ 100000 := by omega
        by_cases h40 : (q : Int) > 40
        · rw [if_pos h40] at h1
          have HQ : Hid (quotedM l = ⟨tok0, 0, 2⟩) := h1.symm
          have HL : Hid ((Lib.byteCells (out ++ (l.drop k).take i)).length = q) := hbl
          have hd40 : decide ((40 : Int) < (q : Int)) = true := by simpa using h40
          clear h1 h2 hbl hq
          refine (Tryz.Builder_Len_f (w.heap.size + 1) (w.heap.size + 1) _ _ hI1).mono ?_
          rintro e w' ⟨rfl, rfl⟩
          rw [HL.out]
          go_wp2
          refine bodyPost_ret (v := tk3V ⟨tok0, 0, 2⟩) (by simp [results, Tryz.results90, go_sem, tk3V, tokV, tok0, hc]) rfl ⟨by rw [HQ.out], ?_⟩
          exact ((((((Below.refl _ w).alloc (Nat.le_refl _) _).trans (hb2.mono (Nat.le_succ _))).setCell (Nat.le_refl _) _).setCell (Nat.le_refl _) _).setCell (Nat.le_refl _) _).setCell (Nat.le_refl _) _
        · rw [if_neg h40] at h1
          have HQ : Hid (quotedM l = ⟨⟨4, out ++ (l.drop k).take i, 0, 0⟩, k + (i + 1), 0⟩) := h1.symm
          have HL : Hid ((Lib.byteCells (out ++ (l.drop k).take i)).length = q) := hbl
          have hd40 : decide ((40 : Int) < (q : Int)) = false := by simpa using h40
          clear h1 h2 hbl hq
          refine (Tryz.Builder_Len_f (w.heap.size + 1) (w.heap.size + 1) _ _ hI1).mono ?_
          rintro e w' ⟨rfl, rfl⟩
          rw [HL.out]
          go_wp2_with (go_at_call 101; refine (Tryz.Builder_String_any_k (w.heap.size + 1) (w.heap.size + 1) _ _ hI1 hBw1).mono ?_)
          rintro e w2 ⟨rfl, _, hb3, _⟩
          have hb4 := hb2.trans hb3
          clear hb2 hb3 hc hf hI1
          obtain ⟨hc, hf⟩ := bcell hb4
          go_wp2
          refine bodyPost_ret (v := tk3V ⟨⟨4, out ++ (l.drop k).take i, 0, 0⟩, k + (i + 1), 0⟩) (by simp [results, Tryz.results90, go_sem, tk3V, tokV, tok0, hc]) rfl ⟨by rw [HQ.out], ?_⟩
          exact ((((((Below.refl _ w).alloc (Nat.le_refl _) _).trans (hb4.mono (Nat.le_succ _))).setCell (Nat.le_refl _) _).setCell (Nat.le_refl _) _).setCell (Nat.le_refl _) _).setCell (Nat.le_refl _) _
end Go.Proofs.YtpepmfhemjeocaaGreatDoor
end
section
/- A function of values that is proved at the machine, as a contract of this logic. -/
set_option linter.unusedVariables false
set_option linter.unusedSimpArgs false
namespace Go.Proofs.YtpepmfhemjeocaaGreatDoor
open Go Go.Proofs Go.RowKit

theorem Inv.below {G : Gh} {w w' : World} (h : Inv G ⟨[], []⟩ w) (hb : Below w.heap.size w w') : Inv G ⟨[], []⟩ w' := by
  have hr : G.ref = [] := List.eq_nil_of_length_eq_zero h.rlen
  refine ⟨⟨hb.os.trans h.kept.os, hb.tape.trans h.kept.tape, hb.output.trans h.kept.output, Nat.le_trans h.kept.size hb.size, fun b h1 h2 h3 => ?_⟩, fun b i x e => ?_, h.rlen, ?_, h.inj, ?_, ?_, h.fresh, h.laid⟩
  · rw [hb.block b (Nat.lt_of_lt_of_le h1 h.kept.size), h.kept.block b h1 h2 h3]
  · rw [hb.cell (p := ⟨b, i, none⟩) (h.dat_lt e)]
    exact h.dat b i x e
  · intro r b e
    rw [hr] at e
    simp at e
  · intro k n e
    simp at e
  · intro k k' n n' b c sz c' sz' e
    simp at e
theorem Pure.ofCalls {P : Program} {f : FuncId} {args : List PV} {x : PV} {v : Value} (hE : Enters P f) (hx : ∀ G, Rep G x v)
    (h : ∀ (G : Gh) (w : World) (vs : List Value), Inv G ⟨[], []⟩ w → Reps G args vs → Calls P f vs.toArray w fun e w' => e = .returned v ∧ Below w.heap.size w w') : Pure P f args x :=
  fun G w vs hi hv => .inl ⟨hE, (h G w vs hi hv).mono fun e w' ⟨he, hb⟩ => ⟨v, he, G, x, ⟨[], []⟩, .refl G, hi.below hb, hx G, ⟨rfl, rfl⟩, Nat.le_refl _⟩⟩
theorem rep_tok (G : Gh) (t : Tok) : Rep G (tokPV t) (tokV t) :=
  .agg _ _ (by simp [PV.isCell]) (.cons _ _ _ _ (.int _ _) (.cons _ _ _ _ (.str _) (.cons _ _ _ _ (.int _ _) (.cons _ _ _ _ (.int _ _) .nil))))
theorem quoted_pc {l : Str} (h0 : l ≠ []) (hn : l.length ≤ 2000) : Pure Tryz.prog 90 [.str l] (tk3PV (quotedM l)) := by
  refine Pure.ofCalls (v := tk3V (quotedM l)) ⟨_, Tryz.func90, by kernel_rfl, by kernel_rfl⟩ (fun G => .tup _ _ (.cons _ _ _ _ (rep_tok G _) (.cons _ _ _ _ (.int _ _) (.cons _ _ _ _ (.int _ _) .nil)))) ?_
  intro G w vs hi hv
  cases hv with
  | cons _ _ _ _ h1 h2 =>
  cases h1
  cases h2
  exact quoted_walk l w (List.length_pos_iff.2 h0) hn
theorem lex_pc (s : Str) : Pure Tryz.prog 19 [.str s] (.tup [toksPV (lexM s).1, ftPV (lexM s).2]) := tokens_pc fun r h1 h2 => quoted_pc h1 h2
end Go.Proofs.YtpepmfhemjeocaaGreatDoor
end
section
/- From a contract of this logic to a run of the machine; at a row's end. -/
set_option linter.unusedVariables false
set_option linter.unusedSimpArgs false
namespace Go.Proofs.YtpepmfhemjeocaaGreatDoor
open Go Go.Proofs Go.RowKit Go.WideShapes Go.ChangeShapes

def startGh (w : World) : Gh := ⟨w, fun _ => False, fun _ => False, fun _ => [], [], fun _ _ => none⟩
theorem start_inv (w : World) (hl : NG ≤ w.heap.size ∧ TabFacts w) : Inv (startGh w) ⟨[], []⟩ w where
  kept := ⟨rfl, rfl, rfl, Nat.le_refl _, fun _ _ _ _ => rfl⟩
  dat := fun b i x e => by simp [startGh] at e
  rlen := rfl
  box := fun r b e => by simp [startGh] at e
  inj := List.nodup_nil
  own := fun k n e => by simp at e
  apart := fun k k' n n' b c sz c' sz' e => by simp at e
  fresh := fun _ _ _ => rfl
  laid := ⟨hl.1, fun _ _ h => h, fun _ _ h => h, hl.2⟩
theorem Pure.calls {P : Program} {f : FuncId} {args : List PV} {x : PV} (h : Pure P f args x) (hE : Enters P f) {w : World} (hl : NG ≤ w.heap.size ∧ TabFacts w) {vs : List Value} (hv : Reps (startGh w) args vs) :
    Calls P f vs.toArray w fun e w' => ∃ v G, e = .returned v ∧ Rep G x v ∧ Below w.heap.size w w' := by
  rcases h (startGh w) w vs (start_inv w hl) hv with ⟨_, hc⟩ | ⟨v, w', hr, _⟩
  · refine hc.mono ?_
    rintro e w' ⟨v, rfl, G', r, st', hle, hi, hrep, ⟨rfl, rfl⟩, _⟩
    refine ⟨v, G', rfl, hrep, ?_⟩
    have hk := hi.kept
    rw [hle.w0, hle.pub, hle.pob] at hk
    exact ⟨hk.os, hk.tape, hk.output, hk.size, fun b hb => hk.block b hb (fun h => h) (fun h => h)⟩
  · obtain ⟨fn, hf, hname, hb⟩ := hE
    exfalso
    cases hbody : fn.body with
    | none => simp [hbody] at hb
    | some c =>
      have hn : ¬ fn.name = "runtime.NumGoroutine" := by simpa using hname
      have : (callFunc f vs.toArray).run P w = .ok (.enter f vs.toArray) w := by
        simp [callFunc, hf, hbody, hn]
      rw [this] at hr
      cases hr
theorem post_of_below {H : Type} {enc : TypeId × Value → H} {P : Program} {f : Func} {s : ChangeSpec} {apart fresh handsOn again : Bool} {W W' : World} {args : Array Value} {v : Value} {ds gs : List (DataW H)} {before pa pv : List MemPlace}
    (hW : DataW.Whole enc P f.params.toList s.vars apart W args.toList ds gs before)
    (hres : ∀ (b : Nat) (sp : Nat → Bool) (hd : Bool), DataW.TrodAll enc P W' b sp hd f.resultTypes.toList (v.resultList f.resultTypes.size) (s.fn H (ds ++ gs)).results [])
    (hargs : ∀ sp : Nat → Bool, (∀ p ∈ before, sp p.block = true) → DataW.TrodAll enc P W' 0 sp true f.params.toList args.toList (s.fn H (ds ++ gs)).args pa)
    (hvars : ∀ sp : Nat → Bool, (∀ p ∈ before, sp p.block = true) → DataW.TrodVars enc P W' sp s.vars (s.fn H (ds ++ gs)).vars pv)
    (hps : before = pa ++ pv) (hb : Below W.heap.size W W')
    (hok : ∀ (j : Nat) (t : TypeId) (r : Value), f.resultTypes[j]? = some t → (v.resultList f.resultTypes.size)[j]? = some r → Value.okWide P W' .any 0 t r) :
    s.post enc P f apart fresh handsOn again W args v W' := by
  have hlt : ∀ p ∈ before, p.block < W.heap.size := fun p hp => hW.lt p hp
  have hold : ∀ p ∈ before, (fun b => decide (b < W.heap.size)) p.block = true := fun p hp => by simpa using hlt p hp
  refine ⟨ds, gs, before, [], pa, pv, hW, hres _ _ _, hargs _ hold, hvars _ hold, World.keptBut_mono (fun p hp => ⟨hp, ?_⟩) (hb.frame (· ∈ before)), fun _ => ?_⟩
  · rw [hps, List.mem_append] at hp
    exact Or.inr hp
  · obtain ⟨_, _, _, _, _, hz, hn⟩ := hW
    refine ⟨hok, _, _, ([] ++ pa) ++ pv, ⟨[] ++ pa, pv, trodAll_append (hargs _ (fun _ _ => rfl)) (hres _ _ _), hvars _ (fun _ _ => rfl), rfl, ?_, ?_⟩, ?_⟩
    · intro b off hp
      have hin : MemPlace.cell b off ∈ before := by rw [hps]; simpa using hp
      rw [hb.frozen (hlt _ hin)]
      exact hz b off hin
    · intro ha
      have := hn ha
      rw [hps] at this
      simpa using this
    · intro p hp _
      rw [hps]
      simpa using hp
theorem Tryz.own : ownKnob Tryz.prog.godebug = none := by kernel_rfl
theorem Tryz.laidOut : laidOutB Tryz.prog = true := by kernel_rfl
end Go.Proofs.YtpepmfhemjeocaaGreatDoor
end
section
/- At a row's end, where package variables are listed. -/
set_option linter.unusedVariables false
set_option linter.unusedSimpArgs false
namespace Go.Proofs.YtpepmfhemjeocaaGreatDoor
open Go Go.Proofs Go.RowKit Go.WideShapes Go.ChangeShapes

/-- The plain wrap, the listed variables and the world's shape kept. -/
theorem returnsIn_laid {H : Type} {enc : TypeId × Value → H} {a : Assume} {C : Checked} {os : Os} {f : FuncId} {fn : Func} {s : ChangeSpec} {conds : List PathCond} {apart fresh handsOn again : Bool} {X : World → Array Value → Prop}
    (hX : ∀ (w w' : World) (args : Array Value), w.heap = w'.heap → X w args → X w' args)
    (own : ownKnob C.prog.godebug = none) (started : os.Started) (noInit : C.prog.inits.idxOf? f = none) (hfn : C.prog.funcs[f]? = some fn)
    (witness : ∃ (w : World) (tape : Tape) (i : Input), w.os = os ∧ (w.forCall tape i).Shaped C.prog ∧ i.vars = [] ∧ Input.okWide C.prog (w.forCall tape i) .any w.heap.size f i ∧
      ((s.pre enc C.prog fn conds apart (w.forCall tape i).memory i.args ∧ X (w.forCall tape i).memory i.args) ∧ sizedMet enc C.prog fn (OpenSpec.ofChange s) apart (w.forCall tape i).memory i.args) ∧ a.holds C.prog (lone (Frame.enter C.prog f i.args .normal) [] (w.forCall tape i)))
    (contract : ∀ (W : World) (base : Nat) (args : Array Value) (ds gs : List (DataW H)) (before : List MemPlace),
      (∀ (j : Nat) t v, fn.params[j]? = some t → args[j]? = some v → Value.okWide C.prog W .any base t v) →
      DataW.Whole enc C.prog fn.params.toList s.vars apart W args.toList ds gs before →
      W.ShapedOpen C.prog → X W args →
      Calls C.prog f args W fun e W' => ∃ v, e = .returned v ∧ s.post enc C.prog fn apart fresh handsOn again W args v W') :
    ReturnsInHanded a C os f .any (fun w args => (s.pre enc C.prog fn conds apart w args ∧ X w args) ∧ sizedMet enc C.prog fn (OpenSpec.ofChange s) apart w args) (s.post enc C.prog fn apart fresh handsOn again) := by
  refine returnsInHanded_of_calls own started noInit witness ?_
  intro w tape i _ hsh _ hok hpre hholds
  obtain ⟨_, _, _, fn', hfn', _, _, _, _, hval⟩ := hok
  have e : fn' = fn := Option.some.inj (hfn'.symm.trans hfn)
  subst e
  obtain ⟨⟨⟨ds, gs, before, hw, hc⟩, hx⟩, hz⟩ := hpre
  have hw' := DataW.Whole.of_heap (w' := w.forCall tape i) (by rfl) hw
  refine (contract (w.forCall tape i) w.heap.size i.args ds gs before hval hw' hsh (hX _ _ _ (by rfl) hx)).mono fun e W' ⟨v, he, hp⟩ => ?_
  subst he
  exact ChangeSpec.post_blind hp

def laidL : List (String × DataW Unit) := [("math/bits.deBruijn32tab", Rows.laid_math_bits_deBruijn32tab), ("math/bits.deBruijn64tab", Rows.laid_math_bits_deBruijn64tab), ("internal/strconv.uint64pow10", Rows.laid_internal_strconv_uint64pow10), ("unicode/utf8.acceptRanges", Rows.laid_unicode_utf8_acceptRanges), ("unicode/utf8.first", Rows.laid_unicode_utf8_first)]
set_option maxRecDepth 100000 in
theorem last_row : (((begin Tryz.prog (fun _ _ => 0) default).world.heap[5]?).bind Obj.row?).isSome = true := by kernel_rfl
theorem gsize : 5 < Tryz.prog.globals.size := by
  have : decide (5 < Tryz.prog.globals.size) = true := by kernel_rfl
  exact of_decide_eq_true this
set_option maxRecDepth 100000 in
theorem maxlen_row : ((begin Tryz.prog (fun _ _ => 0) default).world.heap[0]?).bind Obj.row? = some (#[.int .i64 0], 3) := by kernel_rfl
set_option maxRecDepth 100000 in
theorem tabs_of_laid {W : World} (hL : laidMetH Tryz.prog laidL W) (hs : W.ShapedOpen Tryz.prog) : NG ≤ W.heap.size ∧ TabFacts W := by
  rw [MakeChecks.laidMetH_plain _ _ _ (by kernel_rfl)] at hL
  refine ⟨?_, ?_, ?_⟩
  · obtain ⟨⟨zero, t⟩, h0⟩ := Option.isSome_iff_exists.1 last_row
    obtain ⟨cs, h1, _⟩ := hs.1 5 zero t gsize h0
    have := (Array.getElem?_eq_some_iff.1 h1).1
    show 6 ≤ W.heap.size
    omega
  · have h2 : laidMet Tryz.prog (("internal/strconv.uint64pow10", Lib.tabData .u64 Lib.pow10Tab) :: [("unicode/utf8.acceptRanges", Rows.laid_unicode_utf8_acceptRanges), ("unicode/utf8.first", Rows.laid_unicode_utf8_first)]) W := hL.tail.tail
    exact Lib.tabIs_of_head (g := 1) (t := 186) (e := 179) (n := 20) (by kernel_rfl) (by kernel_rfl) (by kernel_rfl) (by kernel_rfl) (by kernel_rfl) (by kernel_rfl) h2
  · exact cell_of_shapedOpen_int (zero := #[.int .i64 0]) (t := 3) hs (by have := gsize; omega) maxlen_row rfl (by kernel_rfl) (by kernel_rfl) (by kernel_rfl)
set_option maxRecDepth 100000 in
theorem witness_met (os : Os) (args : Array Value) : laidMetH Tryz.prog laidL ((World.laidAll Tryz.prog os laidL).forCall (fun _ _ => 0) ⟨#[], args, []⟩).memory := by
  rw [MakeChecks.laidMetH_plain _ _ _ (by kernel_rfl)]
  exact laidMet_laidAll _ (by kernel_rfl) (by kernel_rfl)
set_option maxRecDepth 100000 in
theorem okWide_cells {W : World} {base : Nat} {t : TypeId} {v : Value} {ts : List TypeId} (h : Value.okWide Tryz.prog W .any base t v) (hk : (match Tryz.prog.underlying t with | some (.struct _) => true | _ => false) = true) (hts : Tryz.prog.cellTypes Tryz.prog.depth t = some ts) (hc : Tryz.prog.cellsOf t = ts.length) :
    ∃ cs : Array Value, v = .agg cs ∧ cs.size = ts.length ∧ ∀ (i : Nat) (x : Value) (u : TypeId), cs[i]? = some x → ts[i]? = some u → Cell.okWide Tryz.prog W .any base u x := by
  unfold Value.okWide at h
  split at h
  · obtain ⟨cs, rfl, h1, ts', h2, _, h3⟩ := h
    rw [hts] at h2
    cases h2
    refine ⟨cs, rfl, h1.trans hc, fun i x u hx hu => ?_⟩
    obtain ⟨u', h4, h5⟩ := h3 i x hx
    have hi : i < ts.length := (List.getElem?_eq_some_iff.1 hu).1
    rw [Nat.mod_eq_of_lt hi, hu] at h4
    cases h4
    exact h5
  · rename_i heq
    rw [heq] at hk
    cases hk
  · rename_i h1 h2
    exfalso
    cases hu : Tryz.prog.underlying t with
    | none => rw [hu] at hk; cases hk
    | some d =>
      cases d with
      | struct fs => exact h1 fs hu
      | _ => rw [hu] at hk; cases hk
set_option maxRecDepth 100000 in
theorem cell_int {W : World} {base : Nat} {x : Value} (h : Cell.okWide Tryz.prog W .any base 3 x) : ∃ n : Int, x = .int .i64 n ∧ -9223372036854775808 ≤ n ∧ n ≤ 9223372036854775807 := by
  unfold Cell.okWide at h
  rw [Tryz.underlying3] at h
  unfold Cell.ok at h
  rw [Tryz.underlying3] at h
  cases x <;> simp at h
  obtain ⟨rfl, h1, h2⟩ := h
  exact ⟨_, rfl, h1, h2⟩
set_option maxRecDepth 100000 in
theorem cell_str {W : World} {base : Nat} {x : Value} (h : Cell.okWide Tryz.prog W .any base 9 x) : ∃ s : ByteArray, x = .string s := by
  unfold Cell.okWide at h
  rw [Tryz.underlying9] at h
  unfold Cell.ok at h
  rw [Tryz.underlying9] at h
  cases x <;> simp at h
  exact ⟨_, rfl⟩
end Go.Proofs.YtpepmfhemjeocaaGreatDoor
end
section
/- The parser's reader: its small functions. -/
set_option linter.unusedVariables false
set_option linter.unusedSimpArgs false
namespace Go.Proofs.YtpepmfhemjeocaaGreatDoor
open Go

def rdPV (ts : List Tok) (d c a : Int) : List PV := [.list 4 (ts.map tokPV) .no, .int .i64 d, .int .i64 c, .int .i64 a]

theorem rd_clean (ts : List Tok) (d c a : Int) : PVs.clean 0 0 (rdPV ts d c a) = true := by
  simp only [rdPV, PVs.clean, PV.clean, clean_map (tok_clean 0 0)]; rfl

theorem next_pc (t : Tok) (ts : List Tok) (d c a : Int) :
    One Tryz.prog 104 [.ref 0 0] (rdPV (t :: ts) d c a) (fun r cs => r = tokPV t ∧ cs = rdPV (t :: ts) d c a) := by
  refine PC.intro tab_ok Tryz.func104 rfl (by kernel_rfl) Tryz.ntmps104 (Nat.le_of_ble_eq_true rfl) (rs := _) (congrArg Array.toList Tryz.results104) ?_
  refine PW.go tab_ok [] fun K hK => ?_
  simp only [go_sem, ↓reduceIte, reduceCtorEq, Nat.reduceBEq, Nat.reduceAdd, Nat.reduceMul, Nat.reduceSub, Nat.reduceLT, Nat.reduceLeDiff, Nat.reduceEqDiff]
  (refine hK _ _ ?_; (try clear hK); (try clear K))
  refine PW.go tab_ok [] fun K hK => ?_
  simp only [rdPV, tokPV, go_sem, ↓reduceIte, reduceCtorEq, Nat.reduceBEq, Nat.reduceAdd, Nat.reduceMul, Nat.reduceSub, Nat.reduceLT, Nat.reduceLeDiff, Nat.reduceEqDiff]
  (refine hK _ _ ?_; (try clear hK); (try clear K))
  exact PW.ret (One.ret rfl ⟨rfl, rfl⟩ rfl (rd_clean (t :: ts) d c a) rfl)

theorem fine_pc (ts : List Tok) (d c a : Int) :
    One Tryz.prog 103 [.ref 0 0] (rdPV ts d c a) (fun r cs => r = .bool (c == 0) ∧ cs = rdPV ts d c a) := by
  refine PC.intro tab_ok Tryz.func103 rfl (by kernel_rfl) Tryz.ntmps103 (Nat.le_of_ble_eq_true rfl) (rs := _) (congrArg Array.toList Tryz.results103) ?_
  refine PW.go tab_ok [] fun K hK => ?_
  simp only [go_sem, ↓reduceIte, reduceCtorEq, Nat.reduceBEq, Nat.reduceAdd, Nat.reduceMul, Nat.reduceSub, Nat.reduceLT, Nat.reduceLeDiff, Nat.reduceEqDiff]
  (refine hK _ _ ?_; (try clear hK); (try clear K))
  refine PW.go tab_ok [] fun K hK => ?_
  simp only [rdPV, go_sem, ↓reduceIte, reduceCtorEq, Nat.reduceBEq, Nat.reduceAdd, Nat.reduceMul, Nat.reduceSub, Nat.reduceLT, Nat.reduceLeDiff, Nat.reduceEqDiff]
  (refine hK _ _ ?_; (try clear hK); (try clear K))
  exact PW.ret (One.ret rfl ⟨rfl, rfl⟩ rfl (rd_clean ts d c a) rfl)

theorem fail_pc (t : Tok) (ts : List Tok) (d c a e : Int) :
    One Tryz.prog 43 [.ref 0 0, .int .i64 e] (rdPV (t :: ts) d c a) (fun r cs => r = .tup [] ∧ cs = if c = 0 then rdPV (t :: ts) d e t.at_ else rdPV (t :: ts) d c a) := by
  refine PC.intro tab_ok Tryz.func43 rfl (by kernel_rfl) Tryz.ntmps43 (Nat.le_of_ble_eq_true rfl) (rs := _) (congrArg Array.toList Tryz.results43) ?_
  refine PW.go tab_ok [] fun K hK => ?_
  simp only [go_sem, ↓reduceIte, reduceCtorEq, Nat.reduceBEq, Nat.reduceAdd, Nat.reduceMul, Nat.reduceSub, Nat.reduceLT, Nat.reduceLeDiff, Nat.reduceEqDiff]
  refine (fine_pc (t :: ts) d c a).use 0 rfl .nil rfl (rd_clean _ _ _ _) ?_
  rintro r cs' ⟨rfl, rfl⟩ _ _
  refine PO.go tab_ok [] ?_
  simp only [go_sem, ↓reduceIte, reduceCtorEq, Nat.reduceBEq, Nat.reduceAdd, Nat.reduceMul, Nat.reduceSub, Nat.reduceLT, Nat.reduceLeDiff, Nat.reduceEqDiff]
  (refine hK _ _ ?_; (try clear hK); (try clear K))
  refine PW.cond_split (b := c == 0) rfl ?_ ?_ <;> intro hc
  · refine PW.goL tab_ok [] fun K hK => ?_
    simp only [go_sem, ↓reduceIte, reduceCtorEq, Nat.reduceBEq, Nat.reduceAdd, Nat.reduceMul, Nat.reduceSub, Nat.reduceLT, Nat.reduceLeDiff, Nat.reduceEqDiff]
    refine (next_pc t ts d c a).use 0 rfl .nil rfl (rd_clean _ _ _ _) ?_
    rintro r cs' ⟨rfl, rfl⟩ _ _
    refine PO.go tab_ok [] ?_
    simp only [rdPV, tokPV, go_sem, ↓reduceIte, reduceCtorEq, Nat.reduceBEq, Nat.reduceAdd, Nat.reduceMul, Nat.reduceSub, Nat.reduceLT, Nat.reduceLeDiff, Nat.reduceEqDiff]
    (refine hK _ _ ?_; (try clear hK); (try clear K))
    have hc0 : c = 0 := by simpa using hc
    exact One.done rfl ⟨rfl, by rw [if_pos hc0]; rfl⟩ rfl (rd_clean (t :: ts) d e t.at_) rfl
  · have hc0 : ¬ c = 0 := by simpa using hc
    exact PW.skip (One.done rfl ⟨rfl, by rw [if_neg hc0]⟩ rfl (rd_clean (t :: ts) d c a) rfl)
end Go.Proofs.YtpepmfhemjeocaaGreatDoor
end
section
/- The parser's reader: words and signs. -/
set_option linter.unusedVariables false
set_option linter.unusedSimpArgs false
namespace Go.Proofs.YtpepmfhemjeocaaGreatDoor
open Go

/-- What a reader stands at. -/
structure R where
  ts : List Tok
  d : Int
  c : Int
  a : Int
def rPV (r : R) : List PV := rdPV r.ts r.d r.c r.a
theorem r_clean (r : R) : PVs.clean 0 0 (rPV r) = true := rd_clean _ _ _ _
/-- A function that is told of a reader. -/
def OneM (P : Program) (f : FuncId) (us : List PV) (r : R) (x : PV) (r' : R) : Prop := One P f (.ref 0 0 :: us) (rPV r) fun y cs => y = x ∧ cs = rPV r'
theorem OneM.use {P : Program} {f : FuncId} {us args : List PV} {r r' : R} {x : PV} (h : OneM P f us r x r') (k : Nat) {st : St} {K : PV → St → Prop} (hb : st.box[k]? = some (rPV r)) (ha : Weaks args us) (hc : PVs.clean 0 0 us = true)
    (hk : K x { st with box := st.box.set k (rPV r') }) : PC P f (.ref k 0 :: args) st K := by
  refine One.use h k hb ha hc (r_clean r) ?_
  rintro y cs ⟨rfl, rfl⟩ _ _
  exact hk
theorem r_left (r : R) (rest : List (List PV)) (len : List Nat) : Left ⟨rPV r :: rest, len⟩ ⟨[rPV r], []⟩ := by
  refine ⟨?_, by simp, ?_⟩
  · simp only [List.length_cons, List.length_nil, List.take_succ_cons, List.take_zero, boxes_cons, boxes_nil, and_true]
    exact ⟨Weaks.refl _, by intro z hz; simp only [rPV, rdPV, List.mem_cons, List.not_mem_nil, or_false] at hz; rcases hz with rfl | rfl | rfl | rfl <;> rfl⟩
  · intro c h
    simp at h
    subst h
    exact PVs.clean_data (r_clean r)
theorem OneM.fin {tt : TTab} {rs : List ResultVar} {cs : List PV} {rest : List (List PV)} {len : List Nat} {env : Env} {xs : List PV} {e : Exit} {x : PV} {r' : R} {cs' : List PV} (he : e = .ret ∨ e = .normal)
    (hr : resAll tt env ⟨cs' :: rest, len⟩ rs = some xs) (hcs : cs' = rPV r') (hw : Weak (resPV xs) x) (hx : PV.clean 0 0 x = true) :
    Ends tt rs ⟨[cs], []⟩ (fun r st' => ∃ cs', st' = ⟨[cs'], []⟩ ∧ (r = x ∧ cs' = rPV r') ∧ PV.clean 0 0 r = true ∧ PVs.clean 0 0 cs' = true) e env ⟨cs' :: rest, len⟩ := by
  subst hcs
  exact ⟨he, xs, x, ⟨[rPV r'], []⟩, hr, hw, r_left r' rest len, by simp, by simp, PV.clean_data hx, _, rfl, ⟨rfl, rfl⟩, hx, r_clean r'⟩

def hd (r : R) : Tok := r.ts.headD ⟨0, [], 0, 0⟩
def isM (ls : List Str) (r : R) : Int := if r.c = 0 ∧ ((hd r).kind = 2 ∨ (hd r).kind = 5) then idxF ls (hd r).text else -1
def R.tail (r : R) : R := { r with ts := r.ts.tail }
def passM (ls : List Str) (r : R) : Int × R := (isM ls r, if 0 ≤ isM ls r then r.tail else r)
def failM (e : Int) (r : R) : R := if r.c = 0 then { r with c := e, a := (hd r).at_ } else r
def hasM (s : Str) (r : R) : Bool × R := (decide (0 ≤ (passM [s] r).1), (passM [s] r).2)
def mustM : List Str → R → R
  | [], r => r
  | l :: ls, r => mustM ls (if (hasM l r).1 then (hasM l r).2 else failM 4 (hasM l r).2)
def takeM (k : Int) (r : R) : Tok × R := if r.c = 0 ∧ (hd r).kind = k then (hd r, r.tail) else (tok0, failM 4 r)
def nameM (r : R) : Str × R := ((takeM 1 r).1.text, (takeM 1 r).2)
/-- There is a next token: the last one is the end. -/
def R.ok (r : R) : Prop := ∃ l e, r.ts = l ++ [e] ∧ e.kind = 6
theorem R.ok.cons {r : R} (h : r.ok) : ∃ t ts, r.ts = t :: ts ∧ (t.kind ≠ 6 → r.tail.ok) := by
  obtain ⟨l, e, h1, h2⟩ := h
  cases l with
  | nil => exact ⟨e, [], by simpa using h1, fun h => absurd h2 h⟩
  | cons t l => exact ⟨t, l ++ [e], by simpa using h1, fun _ => ⟨l, e, by simp [R.tail, h1], h2⟩⟩
theorem failM_ok {r : R} (h : r.ok) (e : Int) : (failM e r).ok := by
  unfold failM
  split
  · exact h
  · exact h
theorem isM_tail {ls : List Str} {r : R} (h : r.ok) (hk : 0 ≤ isM ls r) : r.tail.ok := by
  obtain ⟨t, ts, h1, h2⟩ := h.cons
  refine h2 fun h6 => ?_
  unfold isM at hk
  split at hk
  · rename_i hc
    simp only [hd, h1, List.headD_cons, h6] at hc
    omega
  · omega
theorem passM_ok {ls : List Str} {r : R} (h : r.ok) : (passM ls r).2.ok := by
  unfold passM
  split
  · exact isM_tail h ‹_›
  · exact h
theorem hasM_ok {s : Str} {r : R} (h : r.ok) : (hasM s r).2.ok := passM_ok h
theorem mustM_ok : ∀ {ls : List Str} {r : R}, r.ok → (mustM ls r).ok
  | [], r, h => h
  | l :: ls, r, h => by
    unfold mustM
    refine mustM_ok ?_
    split
    · exact hasM_ok h
    · exact failM_ok (hasM_ok h) 4
theorem takeM_ok {k : Int} (hk : k ≠ 6) {r : R} (h : r.ok) : (takeM k r).2.ok := by
  obtain ⟨t, ts, h1, h2⟩ := h.cons
  unfold takeM
  split
  · rename_i hc
    refine h2 fun h6 => hk ?_
    simp only [hd, h1, List.headD_cons] at hc
    rw [← hc.2, h6]
  · exact failM_ok h 4
theorem nameM_ok {r : R} (h : r.ok) : (nameM r).2.ok := takeM_ok (by decide) h
theorem fail_pc' {r : R} (h : r.ok) (e : Int) : OneM Tryz.prog 43 [.int .i64 e] r (.tup []) (failM e r) := by
  obtain ⟨t, ts, h1, _⟩ := h.cons
  obtain ⟨_, d, c, a⟩ := r
  subst h1
  refine PC.mono (fail_pc t ts d c a e) ?_
  rintro r st ⟨cs, rfl, ⟨rfl, rfl⟩, h2, h3⟩
  refine ⟨_, rfl, ⟨rfl, ?_⟩, h2, h3⟩
  unfold failM
  simp only
  split <;> rfl
theorem idx_ge (ls : List Str) (x : Str) : -1 ≤ idxF ls x ∧ idxF ls x < ls.length := by
  induction ls with
  | nil => simp [idxF]
  | cons l ls ih =>
    simp only [idxF, List.length_cons]
    split
    · omega
    · split <;> omega

theorem is_pc {ls : List Str} (hl : ls.length ≤ 4611686018427387903) {r : R} (h : r.ok) : OneM Tryz.prog 153 [.list 1 (strs ls) .no] r (.int .i64 (isM ls r)) r := by
  obtain ⟨t, ts, h1, _⟩ := h.cons
  obtain ⟨_, d, c, a⟩ := r
  subst h1
  refine PC.intro tab_ok Tryz.func153 rfl (by kernel_rfl) Tryz.ntmps153 (Nat.le_of_ble_eq_true rfl) (rs := _) (congrArg Array.toList Tryz.results153) ?_
  refine PW.go tab_ok [] fun K hK => ?_
  simp only [go_sem, ↓reduceIte, reduceCtorEq, Nat.reduceBEq, Nat.reduceAdd, Nat.reduceMul, Nat.reduceSub, Nat.reduceLT, Nat.reduceLeDiff, Nat.reduceEqDiff]
  (refine hK _ _ ?_; (try clear hK); (try clear K))
  refine PW.go tab_ok [] fun K hK => ?_
  simp only [go_sem, ↓reduceIte, reduceCtorEq, Nat.reduceBEq, Nat.reduceAdd, Nat.reduceMul, Nat.reduceSub, Nat.reduceLT, Nat.reduceLeDiff, Nat.reduceEqDiff]
  refine (next_pc t ts d c a).use 0 rfl .nil rfl (rd_clean _ _ _ _) ?_
  rintro _ _ ⟨rfl, rfl⟩ _ _
  refine PO.go tab_ok [] ?_
  simp only [tokPV, go_sem, ↓reduceIte, reduceCtorEq, Nat.reduceBEq, Nat.reduceAdd, Nat.reduceMul, Nat.reduceSub, Nat.reduceLT, Nat.reduceLeDiff, Nat.reduceEqDiff]
  (refine hK _ _ ?_; (try clear hK); (try clear K))
  refine PW.seq_k fun K0 hK0 => ?_
  refine PW.go tab_ok [] fun K hK => ?_
  simp only [go_sem, ↓reduceIte, reduceCtorEq, Nat.reduceBEq, Nat.reduceAdd, Nat.reduceMul, Nat.reduceSub, Nat.reduceLT, Nat.reduceLeDiff, Nat.reduceEqDiff]
  refine (fine_pc (t :: ts) d c a).use 0 rfl .nil rfl (rd_clean _ _ _ _) ?_
  rintro _ _ ⟨rfl, rfl⟩ _ _
  refine PO.go tab_ok [] ?_
  have hlast : ∀ {env : Env} {st : St}, Sub env [(0, .ref 0 0), (1, .list 1 (strs ls) .no), (5, .ref 1 0)] → st = ⟨[rdPV (t :: ts) d c a, [.int .i64 t.kind, .str t.text, .int .i64 t.num, .int .i64 t.at_]], []⟩ → c = 0 ∧ (t.kind = 2 ∨ t.kind = 5) → K0 env st := by
    rintro env st hsub rfl hc
    refine hK0 _ _ (PW.less _ hsub ?_)
    refine PW.go tab_ok [] fun K hK => ?_
    simp only [go_sem, ↓reduceIte, reduceCtorEq, Nat.reduceBEq, Nat.reduceAdd, Nat.reduceMul, Nat.reduceSub, Nat.reduceLT, Nat.reduceLeDiff, Nat.reduceEqDiff]
    refine (index_pc ls t.text (by omega)).use (Weaks.refl _) (by simp [PVs.clean, PV.clean, strs_clean]) rfl ?_
    refine PO.go tab_ok [] ?_
    simp only [go_sem, ↓reduceIte, reduceCtorEq, Nat.reduceBEq, Nat.reduceAdd, Nat.reduceMul, Nat.reduceSub, Nat.reduceLT, Nat.reduceLeDiff, Nat.reduceEqDiff]
    (refine hK _ _ ?_; (try clear hK); (try clear K))
    refine PW.ret (OneM.fin (.inl rfl) rfl rfl ?_ rfl)
    simp [isM, hd, hc, resPV]
  by_cases hc : c = 0
  · subst hc
    have hc' : ((0 : Int) == 0) = true := rfl
    by_cases h2 : t.kind = 2
    · have h2' : (t.kind != 2) = false := by simp [h2]
      simp only [hc', h2', go_sem, ↓reduceIte, reduceCtorEq, Nat.reduceBEq, Nat.reduceAdd, Nat.reduceMul, Nat.reduceSub, Nat.reduceLT, Nat.reduceLeDiff, Nat.reduceEqDiff]
      (refine hK _ _ ?_; (try clear hK); (try clear K))
      refine PW.cond_split (b := false) rfl ?_ ?_ <;> intro hb
      · cases hb
      exact PW.skip (hlast (by simp [Sub, eget]) rfl ⟨rfl, .inl h2⟩)
    · have h2' : (t.kind != 2) = true := by simp [h2]
      by_cases h5 : t.kind = 5
      · have h5' : (t.kind != 5) = false := by simp [h5]
        simp only [hc', h2', h5', go_sem, ↓reduceIte, reduceCtorEq, Nat.reduceBEq, Nat.reduceAdd, Nat.reduceMul, Nat.reduceSub, Nat.reduceLT, Nat.reduceLeDiff, Nat.reduceEqDiff]
        (refine hK _ _ ?_; (try clear hK); (try clear K))
        refine PW.cond_split (b := false) rfl ?_ ?_ <;> intro hb
        · cases hb
        exact PW.skip (hlast (by simp [Sub, eget]) rfl ⟨rfl, .inr h5⟩)
      · have h5' : (t.kind != 5) = true := by simp [h5]
        simp only [hc', h2', h5', go_sem, ↓reduceIte, reduceCtorEq, Nat.reduceBEq, Nat.reduceAdd, Nat.reduceMul, Nat.reduceSub, Nat.reduceLT, Nat.reduceLeDiff, Nat.reduceEqDiff]
        (refine hK _ _ ?_; (try clear hK); (try clear K))
        refine PW.cond_split (b := true) rfl ?_ ?_ <;> intro hb
        · refine PW.go tab_ok [] fun K hK => ?_
          simp only [go_sem, ↓reduceIte, reduceCtorEq, Nat.reduceBEq, Nat.reduceAdd, Nat.reduceMul, Nat.reduceSub, Nat.reduceLT, Nat.reduceLeDiff, Nat.reduceEqDiff]
          (refine hK _ _ ?_; (try clear hK); (try clear K))
          refine PW.ret (OneM.fin (.inl rfl) rfl rfl ?_ rfl)
          simp [isM, hd, h2, h5, resPV]
        · cases hb
  · have hc' : (c == 0) = false := by simp [hc]
    simp only [hc', go_sem, ↓reduceIte, reduceCtorEq, Nat.reduceBEq, Nat.reduceAdd, Nat.reduceMul, Nat.reduceSub, Nat.reduceLT, Nat.reduceLeDiff, Nat.reduceEqDiff]
    (refine hK _ _ ?_; (try clear hK); (try clear K))
    refine PW.cond_split (b := true) rfl ?_ ?_ <;> intro hb
    · refine PW.go tab_ok [] fun K hK => ?_
      simp only [go_sem, ↓reduceIte, reduceCtorEq, Nat.reduceBEq, Nat.reduceAdd, Nat.reduceMul, Nat.reduceSub, Nat.reduceLT, Nat.reduceLeDiff, Nat.reduceEqDiff]
      (refine hK _ _ ?_; (try clear hK); (try clear K))
      refine PW.ret (OneM.fin (.inl rfl) rfl rfl ?_ rfl)
      simp [isM, hc, resPV]
    · cases hb
end Go.Proofs.YtpepmfhemjeocaaGreatDoor
end
section
/- The parser's reader: passing. -/
set_option linter.unusedVariables false
set_option linter.unusedSimpArgs false
namespace Go.Proofs.YtpepmfhemjeocaaGreatDoor
open Go

theorem tail_eq (t : Tok) (ts : List Tok) (d c a : Int) : rPV (R.tail ⟨t :: ts, d, c, a⟩) = rdPV ts d c a := rfl
theorem strs_clean1 (ls : List Str) : PVs.clean 0 0 [.list 1 (strs ls) .no] = true := by simp [PVs.clean, PV.clean, strs_clean]

theorem pass_pc {ls : List Str} (hl : ls.length ≤ 4611686018427387903) {r : R} (h : r.ok) : OneM Tryz.prog 102 [.list 1 (strs ls) .no] r (.int .i64 (passM ls r).1) (passM ls r).2 := by
  have h1 : (1 : Int) ≤ (r.ts.length : Int) := by
    obtain ⟨t, ts, h1, _⟩ := h.cons
    rw [h1]
    simp
    omega
  have h1' : r.ts.length = (r.ts.map tokPV).length := by simp
  refine PC.intro tab_ok Tryz.func102 rfl (by kernel_rfl) Tryz.ntmps102 (Nat.le_of_ble_eq_true rfl) (rs := _) (congrArg Array.toList Tryz.results102) ?_
  refine PW.go tab_ok [] fun K hK => ?_
  simp only [go_sem, ↓reduceIte, reduceCtorEq, Nat.reduceBEq, Nat.reduceAdd, Nat.reduceMul, Nat.reduceSub, Nat.reduceLT, Nat.reduceLeDiff, Nat.reduceEqDiff]
  (refine hK _ _ ?_; (try clear hK); (try clear K))
  refine PW.go tab_ok [] fun K hK => ?_
  simp only [go_sem, ↓reduceIte, reduceCtorEq, Nat.reduceBEq, Nat.reduceAdd, Nat.reduceMul, Nat.reduceSub, Nat.reduceLT, Nat.reduceLeDiff, Nat.reduceEqDiff]
  refine (is_pc hl h).use 0 rfl (Weaks.refl _) (strs_clean1 ls) ?_
  refine PO.go tab_ok [] ?_
  simp only [go_sem, ↓reduceIte, reduceCtorEq, Nat.reduceBEq, Nat.reduceAdd, Nat.reduceMul, Nat.reduceSub, Nat.reduceLT, Nat.reduceLeDiff, Nat.reduceEqDiff]
  (refine hK _ _ ?_; (try clear hK); (try clear K))
  refine PW.seq_k fun K0 hK0 => ?_
  refine PW.go tab_ok [] fun K hK => ?_
  simp only [go_sem, ↓reduceIte, reduceCtorEq, Nat.reduceBEq, Nat.reduceAdd, Nat.reduceMul, Nat.reduceSub, Nat.reduceLT, Nat.reduceLeDiff, Nat.reduceEqDiff]
  (refine hK _ _ ?_; (try clear hK); (try clear K))
  refine PW.cond_split (b := decide (isM ls r ≥ 0)) rfl ?_ ?_ <;> intro hb
  · have hp : 0 ≤ isM ls r := by simpa using hb
    refine PW.goL tab_ok [] fun K hK => ?_
    have hsl : (0 : Int) ≤ 1 ∧ (1 : Int) ≤ (r.ts.length : Int) := ⟨by omega, h1⟩
    simp only [rPV, rdPV, hsl, go_sem, ↓reduceIte, reduceCtorEq, Nat.reduceBEq, Nat.reduceAdd, Nat.reduceMul, Nat.reduceSub, Nat.reduceLT, Nat.reduceLeDiff, Nat.reduceEqDiff]
    (refine hK _ _ ?_; (try clear hK); (try clear K))
    refine hK0 _ _ ?_
    refine PW.go tab_ok [] fun K hK => ?_
    simp only [go_sem, ↓reduceIte, reduceCtorEq, Nat.reduceBEq, Nat.reduceAdd, Nat.reduceMul, Nat.reduceSub, Nat.reduceLT, Nat.reduceLeDiff, Nat.reduceEqDiff]
    (refine hK _ _ ?_; (try clear hK); (try clear K))
    refine PW.ret (OneM.fin (.inl rfl) rfl ?_ ?_ rfl)
    · simp [passM, hp, R.tail, rPV, rdPV, List.map_drop]
    · simp [passM, resPV]
  · have hp : ¬ 0 ≤ isM ls r := by simpa using hb
    refine PW.skip (hK0 _ _ ?_)
    refine PW.go tab_ok [] fun K hK => ?_
    simp only [go_sem, ↓reduceIte, reduceCtorEq, Nat.reduceBEq, Nat.reduceAdd, Nat.reduceMul, Nat.reduceSub, Nat.reduceLT, Nat.reduceLeDiff, Nat.reduceEqDiff]
    (refine hK _ _ ?_; (try clear hK); (try clear K))
    refine PW.ret (OneM.fin (.inl rfl) rfl ?_ ?_ rfl)
    · simp [passM, hp]
    · simp [passM, resPV]
theorem has_pc {s : Str} {r : R} (h : r.ok) : OneM Tryz.prog 42 [.str s] r (.bool (hasM s r).1) (hasM s r).2 := by
  refine PC.intro tab_ok Tryz.func42 rfl (by kernel_rfl) Tryz.ntmps42 (Nat.le_of_ble_eq_true rfl) (rs := _) (congrArg Array.toList Tryz.results42) ?_
  refine PW.go tab_ok [] fun K hK => ?_
  simp only [go_sem, ↓reduceIte, reduceCtorEq, Nat.reduceBEq, Nat.reduceAdd, Nat.reduceMul, Nat.reduceSub, Nat.reduceLT, Nat.reduceLeDiff, Nat.reduceEqDiff]
  (refine hK _ _ ?_; (try clear hK); (try clear K))
  refine PW.go tab_ok [] fun K hK => ?_
  simp only [go_sem, ↓reduceIte, reduceCtorEq, Nat.reduceBEq, Nat.reduceAdd, Nat.reduceMul, Nat.reduceSub, Nat.reduceLT, Nat.reduceLeDiff, Nat.reduceEqDiff]
  refine (pass_pc (ls := [s]) (by simp) h).use 0 rfl (Weaks.refl _) (strs_clean1 [s]) ?_
  refine PO.go tab_ok [] ?_
  simp only [go_sem, ↓reduceIte, reduceCtorEq, Nat.reduceBEq, Nat.reduceAdd, Nat.reduceMul, Nat.reduceSub, Nat.reduceLT, Nat.reduceLeDiff, Nat.reduceEqDiff]
  (refine hK _ _ ?_; (try clear hK); (try clear K))
  exact PW.ret (OneM.fin (.inl rfl) rfl rfl (.refl _) rfl)
theorem mustM_snoc : ∀ (l : List Str) (x : Str) (r : R), mustM (l ++ [x]) r = if (hasM x (mustM l r)).1 then (hasM x (mustM l r)).2 else failM 4 (hasM x (mustM l r)).2
  | [], x, r => rfl
  | y :: l, x, r => by
    simp only [List.cons_append, mustM]
    exact mustM_snoc l x _
theorem must_pc {ls : List Str} (hl : ls.length ≤ 4611686018427387903) {r : R} (h : r.ok) : OneM Tryz.prog 154 [.list 1 (strs ls) .no] r (.tup []) (mustM ls r) := by
  have hsl : (strs ls).length = ls.length := by simp [strs]
  refine PC.intro tab_ok Tryz.func154 rfl (by kernel_rfl) Tryz.ntmps154 (Nat.le_of_ble_eq_true rfl) (rs := _) (congrArg Array.toList Tryz.results154) ?_
  refine PW.go tab_ok [] fun K hK => ?_
  simp only [hsl, go_sem, ↓reduceIte, reduceCtorEq, Nat.reduceBEq, Nat.reduceAdd, Nat.reduceMul, Nat.reduceSub, Nat.reduceLT, Nat.reduceLeDiff, Nat.reduceEqDiff]
  (refine hK _ _ ?_; (try clear hK); (try clear K))
  refine PW.block (PW.loop (α := Nat) (fun k => [(8, .int .i64 (k : Int)), (7, .int .i64 (ls.length : Int)), (6, .list 1 (strs ls) .no), (0, .ref 0 0)]) (fun k => ⟨[rPV (mustM (ls.take k) r)], []⟩)
    (fun k => k ≤ ls.length) (fun k => ls.length - k) 0 (Nat.zero_le _) ?_ rfl (fun _ _ => ⟨rfl, rfl⟩) ?_)
  · simp [Sub, eget]
  rintro k hk
  refine PW.go tab_ok [] fun K hK => ?_
  simp only [go_sem, ↓reduceIte, reduceCtorEq, Nat.reduceBEq, Nat.reduceAdd, Nat.reduceMul, Nat.reduceSub, Nat.reduceLT, Nat.reduceLeDiff, Nat.reduceEqDiff]
  (refine hK _ _ ?_; (try clear hK); (try clear K))
  refine PW.seq_k fun K2 hK2 => ?_
  refine PW.cond_split (b := decide ((k : Int) < (ls.length : Int))) rfl ?_ ?_ <;> intro hc
  · have hlt : k < ls.length := by simpa using hc
    refine PW.skip (hK2 _ _ ?_)
    clear hK2 K2
    refine PW.seq_k fun K3 hK3 => PW.block ?_
    have hget : (strs ls)[((k : Int)).toNat]? = some (.str ls[k]) := by simp [strs, hlt]
    have h0 : (0 : Int) ≤ (k : Int) := by omega
    refine PW.go tab_ok [] fun K hK => ?_
    simp only [hget, h0, go_sem, ↓reduceIte, reduceCtorEq, Nat.reduceBEq, Nat.reduceAdd, Nat.reduceMul, Nat.reduceSub, Nat.reduceLT, Nat.reduceLeDiff, Nat.reduceEqDiff]
    (refine hK _ _ ?_; (try clear hK); (try clear K))
    have hok : (mustM (ls.take k) r).ok := mustM_ok h
    have hnext : mustM (ls.take (k + 1)) r = if (hasM ls[k] (mustM (ls.take k) r)).1 then (hasM ls[k] (mustM (ls.take k) r)).2 else failM 4 (hasM ls[k] (mustM (ls.take k) r)).2 := by
      rw [← mustM_snoc, List.take_succ_eq_append_getElem hlt]
    have hw : IntKind.i64.wrap ((k : Int) + 1) = ((k + 1 : Nat) : Int) := by
      rw [show (k : Int) + 1 = ((k + 1 : Nat) : Int) from by omega]
      exact wrap_nat (by omega)
    refine PW.go tab_ok [] fun K hK => ?_
    simp only [go_sem, ↓reduceIte, reduceCtorEq, Nat.reduceBEq, Nat.reduceAdd, Nat.reduceMul, Nat.reduceSub, Nat.reduceLT, Nat.reduceLeDiff, Nat.reduceEqDiff]
    refine (has_pc hok).use 0 rfl (Weaks.refl _) rfl ?_
    refine PO.go tab_ok [] ?_
    simp only [go_sem, ↓reduceIte, reduceCtorEq, Nat.reduceBEq, Nat.reduceAdd, Nat.reduceMul, Nat.reduceSub, Nat.reduceLT, Nat.reduceLeDiff, Nat.reduceEqDiff]
    (refine hK _ _ ?_; (try clear hK); (try clear K))
    have hend : ∀ {env : Env} {st : St}, Sub env [(8, .int .i64 (k : Int)), (7, .int .i64 (ls.length : Int)), (6, .list 1 (strs ls) .no), (0, .ref 0 0)] → st = ⟨[rPV (mustM (ls.take (k + 1)) r)], []⟩ → K3 env st := by
      rintro env st hsub rfl
      refine hK3 _ _ (PW.less _ hsub ?_)
      refine PW.goL tab_ok [] fun K hK => ?_
      simp only [go_sem, ↓reduceIte, reduceCtorEq, Nat.reduceBEq, Nat.reduceAdd, Nat.reduceMul, Nat.reduceSub, Nat.reduceLT, Nat.reduceLeDiff, Nat.reduceEqDiff]
      (refine hK _ _ ?_; (try clear hK); (try clear K))
      exact ⟨k + 1, by omega, by omega, by simp [Sub, eget, hw], r_left _ _ _, by simp [Env.clean, PV.clean, PVs.clean_data (strs_clean ls)]⟩
    refine PW.cond_split (b := !(hasM ls[k] (mustM (ls.take k) r)).1) rfl ?_ ?_ <;> intro hc2
    · refine PW.goL tab_ok [] fun K hK => ?_
      simp only [go_sem, ↓reduceIte, reduceCtorEq, Nat.reduceBEq, Nat.reduceAdd, Nat.reduceMul, Nat.reduceSub, Nat.reduceLT, Nat.reduceLeDiff, Nat.reduceEqDiff]
      refine (fail_pc' (hasM_ok hok) 4).use 0 rfl (Weaks.refl _) rfl ?_
      refine PO.go tab_ok [] ?_
      simp only [go_sem, ↓reduceIte, reduceCtorEq, Nat.reduceBEq, Nat.reduceAdd, Nat.reduceMul, Nat.reduceSub, Nat.reduceLT, Nat.reduceLeDiff, Nat.reduceEqDiff]
      (refine hK _ _ ?_; (try clear hK); (try clear K))
      have hc2' : (hasM ls[k] (mustM (ls.take k) r)).1 = false := by simpa using hc2
      exact hend (by simp [Sub, eget]) (by rw [hnext, hc2']; rfl)
    · have hc2' : (hasM ls[k] (mustM (ls.take k) r)).1 = true := by simpa using hc2
      exact PW.skip (hend (by simp [Sub, eget]) (by rw [hnext, hc2']; rfl))
  · have hge : k = ls.length := by simp at hc; omega
    subst hge
    refine PW.exit (OneM.fin (.inr rfl) rfl ?_ (.refl _) rfl)
    rw [List.take_length]
end Go.Proofs.YtpepmfhemjeocaaGreatDoor
end
section
/- The parser's reader: taking a token; trees. -/
set_option linter.unusedVariables false
set_option linter.unusedSimpArgs false
namespace Go.Proofs.YtpepmfhemjeocaaGreatDoor
open Go

theorem take_pc {k : Int} {r : R} (h : r.ok) : OneM Tryz.prog 165 [.int .i64 k] r (tokPV (takeM k r).1) (takeM k r).2 := by
  have h0 := h
  obtain ⟨t, ts, h1, _⟩ := h.cons
  obtain ⟨_, d, c, a⟩ := r
  subst h1
  have hsl : (1 : Int) ≤ ((ts.length + 1 : Nat) : Int) := by omega
  have h01 : (0 : Int) ≤ 1 := by omega
  refine PC.intro tab_ok Tryz.func165 rfl (by kernel_rfl) Tryz.ntmps165 (Nat.le_of_ble_eq_true rfl) (rs := _) (congrArg Array.toList Tryz.results165) ?_
  refine PW.go tab_ok [] fun K hK => ?_
  simp only [go_sem, ↓reduceIte, reduceCtorEq, Nat.reduceBEq, Nat.reduceAdd, Nat.reduceMul, Nat.reduceSub, Nat.reduceLT, Nat.reduceLeDiff, Nat.reduceEqDiff]
  (refine hK _ _ ?_; (try clear hK); (try clear K))
  refine PW.seq_k fun K0 hK0 => ?_
  refine PW.go tab_ok [] fun K hK => ?_
  simp only [go_sem, ↓reduceIte, reduceCtorEq, Nat.reduceBEq, Nat.reduceAdd, Nat.reduceMul, Nat.reduceSub, Nat.reduceLT, Nat.reduceLeDiff, Nat.reduceEqDiff]
  refine (fine_pc (t :: ts) d c a).use 0 rfl .nil rfl (rd_clean _ _ _ _) ?_
  rintro _ _ ⟨rfl, rfl⟩ _ _
  refine PO.go tab_ok [] ?_
  by_cases hc : c = 0
  · subst hc
    have hc' : ((0 : Int) == 0) = true := rfl
    simp only [hc', go_sem, ↓reduceIte, reduceCtorEq, Nat.reduceBEq, Nat.reduceAdd, Nat.reduceMul, Nat.reduceSub, Nat.reduceLT, Nat.reduceLeDiff, Nat.reduceEqDiff]
    refine (next_pc t ts d 0 a).use 0 rfl .nil rfl (rd_clean _ _ _ _) ?_
    rintro _ _ ⟨rfl, rfl⟩ _ _
    refine PO.go tab_ok [] ?_
    by_cases hk : t.kind = k
    · have hk' : (t.kind != k) = false := by simp [hk]
      simp only [tokPV, hk', go_sem, ↓reduceIte, reduceCtorEq, Nat.reduceBEq, Nat.reduceAdd, Nat.reduceMul, Nat.reduceSub, Nat.reduceLT, Nat.reduceLeDiff, Nat.reduceEqDiff]
      (refine hK _ _ ?_; (try clear hK); (try clear K))
      refine PW.cond_split (b := false) rfl ?_ ?_ <;> intro hb
      · cases hb
      refine PW.skip (hK0 _ _ ?_)
      refine PW.go tab_ok [] fun K hK => ?_
      simp only [go_sem, ↓reduceIte, reduceCtorEq, Nat.reduceBEq, Nat.reduceAdd, Nat.reduceMul, Nat.reduceSub, Nat.reduceLT, Nat.reduceLeDiff, Nat.reduceEqDiff]
      refine (next_pc t ts d 0 a).use 0 rfl .nil rfl (rd_clean _ _ _ _) ?_
      rintro _ _ ⟨rfl, rfl⟩ _ _
      refine PO.go tab_ok [] ?_
      simp only [tokPV, go_sem, ↓reduceIte, reduceCtorEq, Nat.reduceBEq, Nat.reduceAdd, Nat.reduceMul, Nat.reduceSub, Nat.reduceLT, Nat.reduceLeDiff, Nat.reduceEqDiff]
      (refine hK _ _ ?_; (try clear hK); (try clear K))
      refine PW.go tab_ok [] fun K hK => ?_
      simp only [rdPV, hsl, h01, go_sem, ↓reduceIte, reduceCtorEq, Nat.reduceBEq, Nat.reduceAdd, Nat.reduceMul, Nat.reduceSub, Nat.reduceLT, Nat.reduceLeDiff, Nat.reduceEqDiff]
      (refine hK _ _ ?_; (try clear hK); (try clear K))
      refine PW.go tab_ok [] fun K hK => ?_
      simp only [go_sem, ↓reduceIte, reduceCtorEq, Nat.reduceBEq, Nat.reduceAdd, Nat.reduceMul, Nat.reduceSub, Nat.reduceLT, Nat.reduceLeDiff, Nat.reduceEqDiff]
      (refine hK _ _ ?_; (try clear hK); (try clear K))
      refine PW.ret (OneM.fin (.inl rfl) rfl ?_ ?_ rfl)
      · simp [takeM, hd, hk, R.tail, rPV, rdPV]
      · simp [takeM, hd, hk, resPV, tokPV]
    · have hk' : (t.kind != k) = true := by simp [hk]
      simp only [tokPV, hk', go_sem, ↓reduceIte, reduceCtorEq, Nat.reduceBEq, Nat.reduceAdd, Nat.reduceMul, Nat.reduceSub, Nat.reduceLT, Nat.reduceLeDiff, Nat.reduceEqDiff]
      (refine hK _ _ ?_; (try clear hK); (try clear K))
      refine PW.cond_split (b := true) rfl ?_ ?_ <;> intro hb
      · refine PW.go tab_ok [] fun K hK => ?_
        simp only [go_sem, ↓reduceIte, reduceCtorEq, Nat.reduceBEq, Nat.reduceAdd, Nat.reduceMul, Nat.reduceSub, Nat.reduceLT, Nat.reduceLeDiff, Nat.reduceEqDiff]
        refine (fail_pc' h0 4).use 0 rfl (Weaks.refl _) rfl ?_
        refine PO.go tab_ok [] ?_
        simp only [go_sem, ↓reduceIte, reduceCtorEq, Nat.reduceBEq, Nat.reduceAdd, Nat.reduceMul, Nat.reduceSub, Nat.reduceLT, Nat.reduceLeDiff, Nat.reduceEqDiff]
        (refine hK _ _ ?_; (try clear hK); (try clear K))
        refine PW.go tab_ok [] fun K hK => ?_
        simp only [go_sem, ↓reduceIte, reduceCtorEq, Nat.reduceBEq, Nat.reduceAdd, Nat.reduceMul, Nat.reduceSub, Nat.reduceLT, Nat.reduceLeDiff, Nat.reduceEqDiff]
        (refine hK _ _ ?_; (try clear hK); (try clear K))
        refine PW.ret (OneM.fin (.inl rfl) rfl ?_ ?_ rfl)
        · simp [takeM, hd, hk, rPV, rdPV, failM]
        · simp [takeM, hd, hk, resPV, tokPV, tok0]
      · cases hb
  · have hc' : (c == 0) = false := by simp [hc]
    simp only [hc', go_sem, ↓reduceIte, reduceCtorEq, Nat.reduceBEq, Nat.reduceAdd, Nat.reduceMul, Nat.reduceSub, Nat.reduceLT, Nat.reduceLeDiff, Nat.reduceEqDiff]
    (refine hK _ _ ?_; (try clear hK); (try clear K))
    refine PW.cond_split (b := true) rfl ?_ ?_ <;> intro hb
    · refine PW.go tab_ok [] fun K hK => ?_
      simp only [go_sem, ↓reduceIte, reduceCtorEq, Nat.reduceBEq, Nat.reduceAdd, Nat.reduceMul, Nat.reduceSub, Nat.reduceLT, Nat.reduceLeDiff, Nat.reduceEqDiff]
      refine (fail_pc' h0 4).use 0 rfl (Weaks.refl _) rfl ?_
      refine PO.go tab_ok [] ?_
      simp only [go_sem, ↓reduceIte, reduceCtorEq, Nat.reduceBEq, Nat.reduceAdd, Nat.reduceMul, Nat.reduceSub, Nat.reduceLT, Nat.reduceLeDiff, Nat.reduceEqDiff]
      (refine hK _ _ ?_; (try clear hK); (try clear K))
      refine PW.go tab_ok [] fun K hK => ?_
      simp only [go_sem, ↓reduceIte, reduceCtorEq, Nat.reduceBEq, Nat.reduceAdd, Nat.reduceMul, Nat.reduceSub, Nat.reduceLT, Nat.reduceLeDiff, Nat.reduceEqDiff]
      (refine hK _ _ ?_; (try clear hK); (try clear K))
      refine PW.ret (OneM.fin (.inl rfl) rfl ?_ ?_ rfl)
      · simp [takeM, hd, hc, rPV, rdPV, failM]
      · simp [takeM, hd, hc, resPV, tokPV, tok0]
    · cases hb
theorem name_pc {r : R} (h : r.ok) : OneM Tryz.prog 155 [] r (.str (nameM r).1) (nameM r).2 := by
  refine PC.intro tab_ok Tryz.func155 rfl (by kernel_rfl) Tryz.ntmps155 (Nat.le_of_ble_eq_true rfl) (rs := _) (congrArg Array.toList Tryz.results155) ?_
  refine PW.go tab_ok [] fun K hK => ?_
  simp only [go_sem, ↓reduceIte, reduceCtorEq, Nat.reduceBEq, Nat.reduceAdd, Nat.reduceMul, Nat.reduceSub, Nat.reduceLT, Nat.reduceLeDiff, Nat.reduceEqDiff]
  (refine hK _ _ ?_; (try clear hK); (try clear K))
  refine PW.go tab_ok [] fun K hK => ?_
  simp only [go_sem, ↓reduceIte, reduceCtorEq, Nat.reduceBEq, Nat.reduceAdd, Nat.reduceMul, Nat.reduceSub, Nat.reduceLT, Nat.reduceLeDiff, Nat.reduceEqDiff]
  refine (take_pc (k := 1) h).use 0 rfl (Weaks.refl _) rfl ?_
  refine PO.go tab_ok [] ?_
  simp only [tokPV, go_sem, ↓reduceIte, reduceCtorEq, Nat.reduceBEq, Nat.reduceAdd, Nat.reduceMul, Nat.reduceSub, Nat.reduceLT, Nat.reduceLeDiff, Nat.reduceEqDiff]
  (refine hK _ _ ?_; (try clear hK); (try clear K))
  exact PW.ret (OneM.fin (.inl rfl) rfl rfl (.refl _) rfl)
def endM (r : R) : R := if r.c = 0 ∧ (hd r).kind ≠ 6 then failM 4 r else r
theorem end_pc {r : R} (h : r.ok) : OneM Tryz.prog 45 [] r (.agg [.int .i64 (endM r).c, .int .i64 (endM r).a]) (endM r) := by
  have h0 := h
  obtain ⟨t, ts, h1, _⟩ := h.cons
  obtain ⟨_, d, c, a⟩ := r
  subst h1
  refine PC.intro tab_ok Tryz.func45 rfl (by kernel_rfl) Tryz.ntmps45 (Nat.le_of_ble_eq_true rfl) (rs := _) (congrArg Array.toList Tryz.results45) ?_
  refine PW.go tab_ok [] fun K hK => ?_
  simp only [go_sem, ↓reduceIte, reduceCtorEq, Nat.reduceBEq, Nat.reduceAdd, Nat.reduceMul, Nat.reduceSub, Nat.reduceLT, Nat.reduceLeDiff, Nat.reduceEqDiff]
  (refine hK _ _ ?_; (try clear hK); (try clear K))
  refine PW.seq_k fun K0 hK0 => ?_
  refine PW.go tab_ok [] fun K hK => ?_
  simp only [go_sem, ↓reduceIte, reduceCtorEq, Nat.reduceBEq, Nat.reduceAdd, Nat.reduceMul, Nat.reduceSub, Nat.reduceLT, Nat.reduceLeDiff, Nat.reduceEqDiff]
  refine (fine_pc (t :: ts) d c a).use 0 rfl .nil rfl (rd_clean _ _ _ _) ?_
  rintro _ _ ⟨rfl, rfl⟩ _ _
  refine PO.go tab_ok [] ?_
  have hlast : ∀ {env : Env} {st : St} (r' : R), Sub env [(0, .ref 0 0), (2, .ref 1 0)] → st = ⟨[rPV r', [.int .i64 0, .int .i64 0]], []⟩ → endM ⟨t :: ts, d, c, a⟩ = r' → K0 env st := by
    rintro env st r' hsub rfl hr
    refine hK0 _ _ (PW.less _ hsub ?_)
    refine PW.go tab_ok [] fun K hK => ?_
    simp only [rPV, rdPV, go_sem, ↓reduceIte, reduceCtorEq, Nat.reduceBEq, Nat.reduceAdd, Nat.reduceMul, Nat.reduceSub, Nat.reduceLT, Nat.reduceLeDiff, Nat.reduceEqDiff]
    (refine hK _ _ ?_; (try clear hK); (try clear K))
    subst hr
    exact PW.ret (OneM.fin (.inl rfl) rfl rfl (.refl _) rfl)
  by_cases hc : c = 0
  · subst hc
    have hc' : ((0 : Int) == 0) = true := rfl
    simp only [hc', go_sem, ↓reduceIte, reduceCtorEq, Nat.reduceBEq, Nat.reduceAdd, Nat.reduceMul, Nat.reduceSub, Nat.reduceLT, Nat.reduceLeDiff, Nat.reduceEqDiff]
    refine (next_pc t ts d 0 a).use 0 rfl .nil rfl (rd_clean _ _ _ _) ?_
    rintro _ _ ⟨rfl, rfl⟩ _ _
    refine PO.go tab_ok [] ?_
    by_cases hk : t.kind = 6
    · have hk' : (t.kind != 6) = false := by simp [hk]
      simp only [tokPV, hk', go_sem, ↓reduceIte, reduceCtorEq, Nat.reduceBEq, Nat.reduceAdd, Nat.reduceMul, Nat.reduceSub, Nat.reduceLT, Nat.reduceLeDiff, Nat.reduceEqDiff]
      (refine hK _ _ ?_; (try clear hK); (try clear K))
      refine PW.cond_split (b := false) rfl ?_ ?_ <;> intro hb
      · cases hb
      exact PW.skip (hlast ⟨t :: ts, d, 0, a⟩ (by simp [Sub, eget]) rfl (by simp [endM, hd, hk]))
    · have hk' : (t.kind != 6) = true := by simp [hk]
      simp only [tokPV, hk', go_sem, ↓reduceIte, reduceCtorEq, Nat.reduceBEq, Nat.reduceAdd, Nat.reduceMul, Nat.reduceSub, Nat.reduceLT, Nat.reduceLeDiff, Nat.reduceEqDiff]
      (refine hK _ _ ?_; (try clear hK); (try clear K))
      refine PW.cond_split (b := true) rfl ?_ ?_ <;> intro hb
      · refine PW.goL tab_ok [] fun K hK => ?_
        simp only [go_sem, ↓reduceIte, reduceCtorEq, Nat.reduceBEq, Nat.reduceAdd, Nat.reduceMul, Nat.reduceSub, Nat.reduceLT, Nat.reduceLeDiff, Nat.reduceEqDiff]
        refine (fail_pc' h0 4).use 0 rfl (Weaks.refl _) rfl ?_
        refine PO.go tab_ok [] ?_
        simp only [go_sem, ↓reduceIte, reduceCtorEq, Nat.reduceBEq, Nat.reduceAdd, Nat.reduceMul, Nat.reduceSub, Nat.reduceLT, Nat.reduceLeDiff, Nat.reduceEqDiff]
        (refine hK _ _ ?_; (try clear hK); (try clear K))
        exact hlast (failM 4 ⟨t :: ts, d, 0, a⟩) (by simp [Sub, eget]) rfl (by simp [endM, hd, hk])
      · cases hb
  · have hc' : (c == 0) = false := by simp [hc]
    simp only [hc', go_sem, ↓reduceIte, reduceCtorEq, Nat.reduceBEq, Nat.reduceAdd, Nat.reduceMul, Nat.reduceSub, Nat.reduceLT, Nat.reduceLeDiff, Nat.reduceEqDiff]
    (refine hK _ _ ?_; (try clear hK); (try clear K))
    refine PW.cond_split (b := false) rfl ?_ ?_ <;> intro hb
    · cases hb
    exact PW.skip (hlast ⟨t :: ts, d, c, a⟩ (by simp [Sub, eget]) rfl (by simp [endM, hc]))
end Go.Proofs.YtpepmfhemjeocaaGreatDoor
end
section
/- The parser's reader: trees, columns, literals, what is one deeper. -/
set_option linter.unusedVariables false
set_option linter.unusedSimpArgs false
namespace Go.Proofs.YtpepmfhemjeocaaGreatDoor
open Go

def ofM (k : Int) (e : Ex) : Ex := .mk k 0 [] [] v0 [e]
theorem of_pc (k : Int) (e : Ex) : Pure Tryz.prog 185 [.int .i64 k, exPV e] (exPV (ofM k e)) := by
  refine PC.intro tab_ok Tryz.func185 rfl (by kernel_rfl) Tryz.ntmps185 (Nat.le_of_ble_eq_true rfl) (rs := _) (congrArg Array.toList Tryz.results185) ?_
  refine PW.go tab_ok [] fun K hK => ?_
  simp only [exPV_cells, exC_len, exC_all, go_sem, ↓reduceIte, reduceCtorEq, Nat.reduceBEq, Nat.reduceAdd, Nat.reduceMul, Nat.reduceSub, Nat.reduceLT, Nat.reduceLeDiff, Nat.reduceEqDiff]
  (refine hK _ _ ?_; (try clear hK); (try clear K))
  refine PW.go tab_ok [] fun K hK => ?_
  simp only [exPV_cells, exC_len, exC_all, exC_take, agg_exC, go_sem, ↓reduceIte, reduceCtorEq, Nat.reduceBEq, Nat.reduceAdd, Nat.reduceMul, Nat.reduceSub, Nat.reduceLT, Nat.reduceLeDiff, Nat.reduceEqDiff]
  (refine hK _ _ ?_; (try clear hK); (try clear K))
  exact PW.ret (Pure.ret rfl rfl (by simp [exPV, PV.clean, ex_clean]))

def colM (r : R) : Ex × R :=
  let p := nameM r
  let q := hasM [46] p.2
  if q.1 then (.mk 2 0 p.1 (nameM q.2).1 v0 [], (nameM q.2).2) else (.mk 2 0 [] p.1 v0 [], q.2)
theorem column_pc {r : R} (h : r.ok) : OneM Tryz.prog 184 [] r (exPV (colM r).1) (colM r).2 := by
  refine PC.intro tab_ok Tryz.func184 rfl (by kernel_rfl) Tryz.ntmps184 (Nat.le_of_ble_eq_true rfl) (rs := _) (congrArg Array.toList Tryz.results184) ?_
  refine PW.go tab_ok [] fun K hK => ?_
  simp only [go_sem, ↓reduceIte, reduceCtorEq, Nat.reduceBEq, Nat.reduceAdd, Nat.reduceMul, Nat.reduceSub, Nat.reduceLT, Nat.reduceLeDiff, Nat.reduceEqDiff]
  (refine hK _ _ ?_; (try clear hK); (try clear K))
  refine PW.go tab_ok [] fun K hK => ?_
  simp only [go_sem, ↓reduceIte, reduceCtorEq, Nat.reduceBEq, Nat.reduceAdd, Nat.reduceMul, Nat.reduceSub, Nat.reduceLT, Nat.reduceLeDiff, Nat.reduceEqDiff]
  refine (name_pc h).use 0 rfl (Weaks.refl _) rfl ?_
  refine PO.go tab_ok [] ?_
  simp only [go_sem, ↓reduceIte, reduceCtorEq, Nat.reduceBEq, Nat.reduceAdd, Nat.reduceMul, Nat.reduceSub, Nat.reduceLT, Nat.reduceLeDiff, Nat.reduceEqDiff]
  (refine hK _ _ ?_; (try clear hK); (try clear K))
  refine PW.seq_k fun K0 hK0 => ?_
  refine PW.go tab_ok [] fun K hK => ?_
  simp only [go_sem, ↓reduceIte, reduceCtorEq, Nat.reduceBEq, Nat.reduceAdd, Nat.reduceMul, Nat.reduceSub, Nat.reduceLT, Nat.reduceLeDiff, Nat.reduceEqDiff]
  refine (has_pc (s := [46]) (nameM_ok h)).use 0 rfl (Weaks.refl _) rfl ?_
  refine PO.go tab_ok [] ?_
  simp only [go_sem, ↓reduceIte, reduceCtorEq, Nat.reduceBEq, Nat.reduceAdd, Nat.reduceMul, Nat.reduceSub, Nat.reduceLT, Nat.reduceLeDiff, Nat.reduceEqDiff]
  (refine hK _ _ ?_; (try clear hK); (try clear K))
  refine PW.cond_split (b := (hasM [46] (nameM r).2).1) rfl ?_ ?_ <;> intro hb
  · refine PW.go tab_ok [] fun K hK => ?_
    simp only [go_sem, ↓reduceIte, reduceCtorEq, Nat.reduceBEq, Nat.reduceAdd, Nat.reduceMul, Nat.reduceSub, Nat.reduceLT, Nat.reduceLeDiff, Nat.reduceEqDiff]
    (refine hK _ _ ?_; (try clear hK); (try clear K))
    refine PW.goL tab_ok [] fun K hK => ?_
    simp only [go_sem, ↓reduceIte, reduceCtorEq, Nat.reduceBEq, Nat.reduceAdd, Nat.reduceMul, Nat.reduceSub, Nat.reduceLT, Nat.reduceLeDiff, Nat.reduceEqDiff]
    refine (name_pc (hasM_ok (nameM_ok h))).use 0 rfl (Weaks.refl _) rfl ?_
    refine PO.go tab_ok [] ?_
    simp only [go_sem, ↓reduceIte, reduceCtorEq, Nat.reduceBEq, Nat.reduceAdd, Nat.reduceMul, Nat.reduceSub, Nat.reduceLT, Nat.reduceLeDiff, Nat.reduceEqDiff]
    (refine hK _ _ ?_; (try clear hK); (try clear K))
    refine hK0 _ _ ?_
    refine PW.go tab_ok [] fun K hK => ?_
    simp only [go_sem, ↓reduceIte, reduceCtorEq, Nat.reduceBEq, Nat.reduceAdd, Nat.reduceMul, Nat.reduceSub, Nat.reduceLT, Nat.reduceLeDiff, Nat.reduceEqDiff]
    (refine hK _ _ ?_; (try clear hK); (try clear K))
    refine PW.ret (OneM.fin (r' := (colM r).2) (.inl rfl) rfl ?_ ?_ (by simp [exPV, PV.clean, ex_clean]))
    · simp [colM, hb]
    · simp only [colM, hb, if_true]
      exact ex_weak _ _ _ _ _ _ _
  · refine PW.skip (hK0 _ _ ?_)
    refine PW.go tab_ok [] fun K hK => ?_
    simp only [go_sem, ↓reduceIte, reduceCtorEq, Nat.reduceBEq, Nat.reduceAdd, Nat.reduceMul, Nat.reduceSub, Nat.reduceLT, Nat.reduceLeDiff, Nat.reduceEqDiff]
    (refine hK _ _ ?_; (try clear hK); (try clear K))
    refine PW.ret (OneM.fin (r' := (colM r).2) (.inl rfl) rfl ?_ ?_ (by simp [exPV, PV.clean, ex_clean]))
    · simp [colM, hb]
    · simp only [colM, hb, Bool.false_eq_true, if_false]
      exact ex_weak _ _ _ _ _ _ _
end Go.Proofs.YtpepmfhemjeocaaGreatDoor
end
section
/- The parser's reader: literals. -/
set_option linter.unusedVariables false
set_option linter.unusedSimpArgs false
namespace Go.Proofs.YtpepmfhemjeocaaGreatDoor
open Go

def nxt (r : R) : Tok := r.ts.tail.headD tok0
def sNULL : Str := [78, 85, 76, 76]
def litM (r : R) : (Vl × Bool) × R :=
  if r.c ≠ 0 then ((v0, false), r)
  else if (hd r).kind = 3 then ((⟨1, (hd r).num, []⟩, true), r.tail)
  else if (hd r).kind = 4 then ((⟨2, 0, (hd r).text⟩, true), r.tail)
  else if isM [[45]] r < 0 ∨ (nxt r).kind ≠ 3 then ((v0, (hasM sNULL r).1), (hasM sNULL r).2)
  else ((⟨1, IntKind.i64.wrap (0 - (nxt r).num), []⟩, true), r.tail.tail)
theorem isM_two {ls : List Str} {r : R} (h : r.ok) (hk : 0 ≤ isM ls r) : ∃ t u ts, r.ts = t :: u :: ts := by
  obtain ⟨t, ts, h1, _⟩ := (isM_tail h hk).cons
  unfold R.tail at h1
  simp only at h1
  cases hts : r.ts with
  | nil => rw [hts] at h1; simp at h1
  | cons u us => rw [hts] at h1; simp at h1; exact ⟨u, t, ts, by rw [h1]⟩
theorem literal_pc {r : R} (h : r.ok) : OneM Tryz.prog 183 [] r (.tup [.agg (vC (litM r).1.1), .bool (litM r).1.2]) (litM r).2 := by
  have h0 := h
  obtain ⟨t, ts, h1, _⟩ := h.cons
  obtain ⟨_, d, c, a⟩ := r
  subst h1
  have hsl : (1 : Int) ≤ ((ts.length + 1 : Nat) : Int) := by omega
  have h01 : (0 : Int) ≤ 1 := by omega
  refine PC.intro tab_ok Tryz.func183 rfl (by kernel_rfl) Tryz.ntmps183 (Nat.le_of_ble_eq_true rfl) (rs := _) (congrArg Array.toList Tryz.results183) ?_
  refine PW.go tab_ok [] fun K hK => ?_
  simp only [go_sem, ↓reduceIte, reduceCtorEq, Nat.reduceBEq, Nat.reduceAdd, Nat.reduceMul, Nat.reduceSub, Nat.reduceLT, Nat.reduceLeDiff, Nat.reduceEqDiff]
  (refine hK _ _ ?_; (try clear hK); (try clear K))
  refine PW.seq_k fun K0 hK0 => ?_
  refine PW.go tab_ok [] fun K hK => ?_
  simp only [go_sem, ↓reduceIte, reduceCtorEq, Nat.reduceBEq, Nat.reduceAdd, Nat.reduceMul, Nat.reduceSub, Nat.reduceLT, Nat.reduceLeDiff, Nat.reduceEqDiff]
  refine (fine_pc (t :: ts) d c a).use 0 rfl .nil rfl (rd_clean _ _ _ _) ?_
  rintro _ _ ⟨rfl, rfl⟩ _ _
  refine PO.go tab_ok [] ?_
  simp only [go_sem, ↓reduceIte, reduceCtorEq, Nat.reduceBEq, Nat.reduceAdd, Nat.reduceMul, Nat.reduceSub, Nat.reduceLT, Nat.reduceLeDiff, Nat.reduceEqDiff]
  (refine hK _ _ ?_; (try clear hK); (try clear K))
  refine PW.cond_split (b := !(c == 0)) rfl ?_ ?_ <;> intro hb
  · have hc : c ≠ 0 := by simpa using hb
    refine PW.go tab_ok [] fun K hK => ?_
    simp only [go_sem, ↓reduceIte, reduceCtorEq, Nat.reduceBEq, Nat.reduceAdd, Nat.reduceMul, Nat.reduceSub, Nat.reduceLT, Nat.reduceLeDiff, Nat.reduceEqDiff]
    (refine hK _ _ ?_; (try clear hK); (try clear K))
    refine PW.ret (OneM.fin (r' := (litM ⟨t :: ts, d, c, a⟩).2) (.inl rfl) rfl ?_ ?_ rfl)
    · simp [litM, hc, rPV]
    · simp [litM, hc, resPV, vC, v0]
  have hc : c = 0 := by simpa using hb
  subst hc
  refine PW.skip (hK0 _ _ ?_)
  clear hK0 K0
  refine PW.seq_k fun K0 hK0 => ?_
  have hlast : ∀ {env : Env} {st : St} (r' : R) (v : Vl) (rest : List (List PV)), Sub env [(0, .ref 0 0), (2, .ref 1 0)] → st = ⟨rPV r' :: vC v :: rest, []⟩ → (1 : Int) ≤ (r'.ts.length : Int) → litM ⟨t :: ts, d, 0, a⟩ = ((v, true), r'.tail) → K0 env st := by
    rintro env st r' v rest hsub rfl hl hr
    refine hK0 _ _ (PW.less _ hsub ?_)
    refine PW.go tab_ok [] fun K hK => ?_
    simp only [rPV, rdPV, hl, h01, go_sem, ↓reduceIte, reduceCtorEq, Nat.reduceBEq, Nat.reduceAdd, Nat.reduceMul, Nat.reduceSub, Nat.reduceLT, Nat.reduceLeDiff, Nat.reduceEqDiff]
    (refine hK _ _ ?_; (try clear hK); (try clear K))
    refine PW.go tab_ok [] fun K hK => ?_
    simp only [vC, go_sem, ↓reduceIte, reduceCtorEq, Nat.reduceBEq, Nat.reduceAdd, Nat.reduceMul, Nat.reduceSub, Nat.reduceLT, Nat.reduceLeDiff, Nat.reduceEqDiff]
    (refine hK _ _ ?_; (try clear hK); (try clear K))
    refine PW.ret (OneM.fin (r' := (litM ⟨t :: ts, d, 0, a⟩).2) (.inl rfl) rfl ?_ ?_ rfl)
    · simp [hr, R.tail, rPV, rdPV, List.map_drop]
    · simp [hr, resPV, vC]
  refine PW.go tab_ok [] fun K hK => ?_
  simp only [go_sem, ↓reduceIte, reduceCtorEq, Nat.reduceBEq, Nat.reduceAdd, Nat.reduceMul, Nat.reduceSub, Nat.reduceLT, Nat.reduceLeDiff, Nat.reduceEqDiff]
  refine (next_pc t ts d 0 a).use 0 rfl .nil rfl (rd_clean _ _ _ _) ?_
  rintro _ _ ⟨rfl, rfl⟩ _ _
  refine PO.go tab_ok [] ?_
  simp only [tokPV, go_sem, ↓reduceIte, reduceCtorEq, Nat.reduceBEq, Nat.reduceAdd, Nat.reduceMul, Nat.reduceSub, Nat.reduceLT, Nat.reduceLeDiff, Nat.reduceEqDiff]
  (refine hK _ _ ?_; (try clear hK); (try clear K))
  refine PW.go tab_ok [] fun K hK => ?_
  simp only [go_sem, ↓reduceIte, reduceCtorEq, Nat.reduceBEq, Nat.reduceAdd, Nat.reduceMul, Nat.reduceSub, Nat.reduceLT, Nat.reduceLeDiff, Nat.reduceEqDiff]
  (refine hK _ _ ?_; (try clear hK); (try clear K))
  refine PW.block ?_
  refine PW.go tab_ok [] fun K hK => ?_
  simp only [go_sem, ↓reduceIte, reduceCtorEq, Nat.reduceBEq, Nat.reduceAdd, Nat.reduceMul, Nat.reduceSub, Nat.reduceLT, Nat.reduceLeDiff, Nat.reduceEqDiff]
  (refine hK _ _ ?_; (try clear hK); (try clear K))
  refine PW.cond_split (b := t.kind == 3) rfl ?_ ?_ <;> intro hb1
  · have hk : t.kind = 3 := by simpa using hb1
    refine PW.goL tab_ok [] fun K hK => ?_
    simp only [go_sem, ↓reduceIte, reduceCtorEq, Nat.reduceBEq, Nat.reduceAdd, Nat.reduceMul, Nat.reduceSub, Nat.reduceLT, Nat.reduceLeDiff, Nat.reduceEqDiff]
    (refine hK _ _ ?_; (try clear hK); (try clear K))
    exact hlast ⟨t :: ts, d, 0, a⟩ ⟨1, t.num, []⟩ _ (by simp [Sub, eget]) rfl (by simp; omega) (by simp [litM, hd, hk])
  have hk3 : t.kind ≠ 3 := by simpa using hb1
  refine PW.go tab_ok [] fun K hK => ?_
  simp only [go_sem, ↓reduceIte, reduceCtorEq, Nat.reduceBEq, Nat.reduceAdd, Nat.reduceMul, Nat.reduceSub, Nat.reduceLT, Nat.reduceLeDiff, Nat.reduceEqDiff]
  (refine hK _ _ ?_; (try clear hK); (try clear K))
  refine PW.cond_split (b := t.kind == 4) rfl ?_ ?_ <;> intro hb2
  · have hk : t.kind = 4 := by simpa using hb2
    refine PW.goL tab_ok [] fun K hK => ?_
    simp only [go_sem, ↓reduceIte, reduceCtorEq, Nat.reduceBEq, Nat.reduceAdd, Nat.reduceMul, Nat.reduceSub, Nat.reduceLT, Nat.reduceLeDiff, Nat.reduceEqDiff]
    (refine hK _ _ ?_; (try clear hK); (try clear K))
    exact hlast ⟨t :: ts, d, 0, a⟩ ⟨2, 0, t.text⟩ _ (by simp [Sub, eget]) rfl (by simp; omega) (by simp [litM, hd, hk])
  have hk4 : t.kind ≠ 4 := by simpa using hb2
  refine PW.seq_k fun K1 hK1 => ?_
  refine PW.go tab_ok [] fun K hK => ?_
  simp only [go_sem, ↓reduceIte, reduceCtorEq, Nat.reduceBEq, Nat.reduceAdd, Nat.reduceMul, Nat.reduceSub, Nat.reduceLT, Nat.reduceLeDiff, Nat.reduceEqDiff]
  refine (is_pc (ls := [[45]]) (by simp) h0).use 0 rfl (Weaks.refl _) (strs_clean1 [[45]]) ?_
  refine PO.go tab_ok [] ?_
  by_cases hi : isM [[45]] ⟨t :: ts, d, 0, a⟩ < 0
  · have hi' : decide (isM [[45]] ⟨t :: ts, d, 0, a⟩ < 0) = true := by simpa using hi
    have hbad : isM [[45]] ⟨t :: ts, d, 0, a⟩ < 0 ∨ ¬ (nxt ⟨t :: ts, d, 0, a⟩).kind = 3 := .inl hi
    simp only [hi', go_sem, ↓reduceIte, reduceCtorEq, Nat.reduceBEq, Nat.reduceAdd, Nat.reduceMul, Nat.reduceSub, Nat.reduceLT, Nat.reduceLeDiff, Nat.reduceEqDiff]
    (refine hK _ _ ?_; (try clear hK); (try clear K))
    refine PW.cond_split (b := true) rfl ?_ ?_ <;> intro hb
    · refine PW.draws tab_ok mixed [] [(0, []), (1, []), (2, [0]), (3, []), (4, [])] (by kernel_rfl) fun K hK => ?_
      simp only [go_sem, ↓reduceIte, reduceCtorEq, Nat.reduceBEq, Nat.reduceAdd, Nat.reduceMul, Nat.reduceSub, Nat.reduceLT, Nat.reduceLeDiff, Nat.reduceEqDiff]
      refine (has_pc (s := sNULL) h0).use 0 rfl (Weaks.refl _) rfl ?_
      refine ⟨?_, GO.go tab_ok ?_⟩
      · simp only [go_sem, ↓reduceIte, reduceCtorEq, Nat.reduceBEq, Nat.reduceAdd, Nat.reduceMul, Nat.reduceSub, Nat.reduceLT, Nat.reduceLeDiff, Nat.reduceEqDiff]
      simp only [go_sem, ↓reduceIte, reduceCtorEq, Nat.reduceBEq, Nat.reduceAdd, Nat.reduceMul, Nat.reduceSub, Nat.reduceLT, Nat.reduceLeDiff, Nat.reduceEqDiff]
      (refine hK _ _ ?_; (try clear hK); (try clear K))
      refine PW.ret (OneM.fin (r' := (litM ⟨t :: ts, d, 0, a⟩).2) (.inl rfl) rfl ?_ ?_ rfl)
      · simp [litM, hd, hk3, hk4, hbad]
      · simp [litM, hd, hk3, hk4, hbad, resPV, vC, v0]
    · cases hb
  have hi' : decide (isM [[45]] ⟨t :: ts, d, 0, a⟩ < 0) = false := by simpa using hi
  obtain ⟨t', u, us, hts⟩ := isM_two h0 (Int.not_lt.1 hi)
  simp only [List.cons.injEq] at hts
  obtain ⟨rfl, rfl⟩ := hts
  by_cases hu : u.kind = 3
  · have hu' : (u.kind != 3) = false := by simp [hu]
    have hn1 : Int.toNat 1 = 1 := rfl
    simp only [hi', hu', h01, rPV, rdPV, tokPV, go_sem, ↓reduceIte, reduceCtorEq, Nat.reduceBEq, Nat.reduceAdd, Nat.reduceMul, Nat.reduceSub, Nat.reduceLT, Nat.reduceLeDiff, Nat.reduceEqDiff]
    (refine hK _ _ ?_; (try clear hK); (try clear K))
    refine PW.cond_split (b := false) rfl ?_ ?_ <;> intro hb
    · cases hb
    refine PW.skip (hK1 _ _ ?_)
    have hsl2 : (1 : Int) ≤ ((us.length + 1 + 1 : Nat) : Int) := by omega
    refine PW.go tab_ok [] fun K hK => ?_
    simp only [h01, rPV, rdPV, tokPV, go_sem, ↓reduceIte, reduceCtorEq, Nat.reduceBEq, Nat.reduceAdd, Nat.reduceMul, Nat.reduceSub, Nat.reduceLT, Nat.reduceLeDiff, Nat.reduceEqDiff]
    (refine hK _ _ ?_; (try clear hK); (try clear K))
    refine PW.goL tab_ok [] fun K hK => ?_
    simp only [h01, hsl2, go_sem, ↓reduceIte, reduceCtorEq, Nat.reduceBEq, Nat.reduceAdd, Nat.reduceMul, Nat.reduceSub, Nat.reduceLT, Nat.reduceLeDiff, Nat.reduceEqDiff]
    (refine hK _ _ ?_; (try clear hK); (try clear K))
    exact hlast ⟨u :: us, d, 0, a⟩ ⟨1, IntKind.i64.wrap (0 - u.num), []⟩ _ (by simp [Sub, eget]) rfl (by simp; omega) (by simp [litM, hd, hk3, hk4, hi, nxt, hu, R.tail])
  · have hu' : (u.kind != 3) = true := by simp [hu]
    have hbad : isM [[45]] ⟨t :: u :: us, d, 0, a⟩ < 0 ∨ ¬ (nxt ⟨t :: u :: us, d, 0, a⟩).kind = 3 := .inr hu
    simp only [hi', hu', h01, rPV, rdPV, tokPV, go_sem, ↓reduceIte, reduceCtorEq, Nat.reduceBEq, Nat.reduceAdd, Nat.reduceMul, Nat.reduceSub, Nat.reduceLT, Nat.reduceLeDiff, Nat.reduceEqDiff]
    (refine hK _ _ ?_; (try clear hK); (try clear K))
    refine PW.cond_split (b := true) rfl ?_ ?_ <;> intro hb
    · refine PW.draws tab_ok mixed [] [(0, []), (1, []), (2, [0]), (3, []), (4, [])] (by kernel_rfl) fun K hK => ?_
      simp only [go_sem, ↓reduceIte, reduceCtorEq, Nat.reduceBEq, Nat.reduceAdd, Nat.reduceMul, Nat.reduceSub, Nat.reduceLT, Nat.reduceLeDiff, Nat.reduceEqDiff]
      refine (has_pc (s := sNULL) h0).use 0 rfl (Weaks.refl _) rfl ?_
      refine ⟨?_, GO.go tab_ok ?_⟩
      · simp only [go_sem, ↓reduceIte, reduceCtorEq, Nat.reduceBEq, Nat.reduceAdd, Nat.reduceMul, Nat.reduceSub, Nat.reduceLT, Nat.reduceLeDiff, Nat.reduceEqDiff]
      simp only [go_sem, ↓reduceIte, reduceCtorEq, Nat.reduceBEq, Nat.reduceAdd, Nat.reduceMul, Nat.reduceSub, Nat.reduceLT, Nat.reduceLeDiff, Nat.reduceEqDiff]
      (refine hK _ _ ?_; (try clear hK); (try clear K))
      refine PW.ret (OneM.fin (r' := (litM ⟨t :: u :: us, d, 0, a⟩).2) (.inl rfl) rfl ?_ ?_ rfl)
      · simp [litM, hd, hk3, hk4, hbad]
      · simp [litM, hd, hk3, hk4, hbad, resPV, vC, v0]
    · cases hb
end Go.Proofs.YtpepmfhemjeocaaGreatDoor
end
section
/- The parser's reader: what is one deeper; rows of operators. -/
set_option linter.unusedVariables false
set_option linter.unusedSimpArgs false
namespace Go.Proofs.YtpepmfhemjeocaaGreatDoor
open Go

theorem res_cell {tt : TTab} {env : Env} {st : St} {b : Nat} {t : TypeId} {p x : PV} {y : TyI} (h1 : eget env b = some p) (h2 : tt t = some y) (h3 : ldPV y st p = some x) : resAll tt env st [.cell b t] = some [x] := by
  simp [resAll, resOne, h1, h2, h3]
/-- A function that is told of a reader and of a method of it. -/
def OneC (P : Program) (f g : FuncId) (us : List PV) (r : R) (x : PV) (r' : R) : Prop := One P f (.ref 0 0 :: .clo (.func g) [.ref 0 0] [] :: us) (rPV r) fun y cs => y = x ∧ cs = rPV r'
theorem OneC.use {P : Program} {f g : FuncId} {us args : List PV} {r r' : R} {x : PV} (h : OneC P f g us r x r') (k : Nat) {st : St} {K : PV → St → Prop} (hb : st.box[k]? = some (rPV r)) (ha : Weaks args us) (hc : PVs.clean 0 0 us = true)
    (hk : K x { st with box := st.box.set k (rPV r') }) : PC P f (.ref k 0 :: .clo (.func g) [.ref k 0] [] :: args) st K := by
  refine PC.use h [k] [] (by simp) rfl ⟨by rw [PVs.ren_data (r_clean r)]; exact hb, trivial⟩ trivial ?_ ?_ ?_ ?_
  · rw [PVs.ren, PVs.ren, PVs.ren_data hc]
    exact .cons (by simp [PV.ren, out]) (.cons (by simp [PV.ren, PVs.ren, out]) ha)
  · simp only [PVs.clean, PV.clean, List.length_cons, List.length_nil, PVs.clean_data hc]
    rfl
  · intro cs' h'
    simp at h'
    subst h'
    exact PVs.clean_data (r_clean r)
  · rintro r0 st1 ⟨cs', rfl, ⟨rfl, rfl⟩, h2, h3⟩ _ _
    rw [PV.ren_data h2]
    simpa [merge, mergeL, setAll, PVs.ren_data h3] using hk

def R.deep (r : R) (n : Int) : R := { r with d := r.d + n }
def deepM (r : R) : R := if r.d + 1 > 10 then failM 10 (r.deep 1) else r.deep 1
def withM (one : R → Ex × R) (r : R) : Ex × R := if (deepM r).c = 0 then ((one (deepM r)).1, (one (deepM r)).2.deep (-1)) else (ex0, (deepM r).deep (-1))
theorem wrap_small {n : Int} (h0 : -1000 ≤ n) (h : n ≤ 4611686018427387904) : IntKind.i64.wrap n = n := by
  simp only [IntKind.wrap, IntKind.bits, IntKind.signed]
  simp
  omega
theorem failM_d (e : Int) (r : R) : (failM e r).d = r.d := by unfold failM; split <;> rfl
theorem failM_c (e : Int) (r : R) (he : e ≠ 0) : (failM e r).c ≠ 0 := by unfold failM; split <;> simp_all
theorem within_pc {g : FuncId} {one : R → Ex × R} {r : R} (h : r.ok) (hd0 : 0 ≤ r.d) (hd1 : r.d ≤ 10) (hone : r.c = 0 → r.d + 1 ≤ 10 → OneM Tryz.prog g [] (r.deep 1) (exPV (one (r.deep 1)).1) (one (r.deep 1)).2 ∧ (one (r.deep 1)).2.d = r.d + 1) :
    OneC Tryz.prog 186 g [] r (exPV (withM one r).1) (withM one r).2 := by
  have hw : IntKind.i64.wrap (r.d + 1) = r.d + 1 := wrap_small (by omega) (by omega)
  refine PC.intro tab_ok Tryz.func186 rfl (by kernel_rfl) Tryz.ntmps186 (Nat.le_of_ble_eq_true rfl) (rs := _) (congrArg Array.toList Tryz.results186) ?_
  refine PW.go tab_ok [] fun K hK => ?_
  simp only [go_sem, ↓reduceIte, reduceCtorEq, Nat.reduceBEq, Nat.reduceAdd, Nat.reduceMul, Nat.reduceSub, Nat.reduceLT, Nat.reduceLeDiff, Nat.reduceEqDiff]
  (refine hK _ _ ?_; (try clear hK); (try clear K))
  refine PW.go tab_ok [] fun K hK => ?_
  simp only [rPV, rdPV, hw, go_sem, ↓reduceIte, reduceCtorEq, Nat.reduceBEq, Nat.reduceAdd, Nat.reduceMul, Nat.reduceSub, Nat.reduceLT, Nat.reduceLeDiff, Nat.reduceEqDiff]
  (refine hK _ _ ?_; (try clear hK); (try clear K))
  refine PW.seq_k fun K0 hK0 => ?_
  refine PW.go tab_ok [] fun K hK => ?_
  simp only [go_sem, ↓reduceIte, reduceCtorEq, Nat.reduceBEq, Nat.reduceAdd, Nat.reduceMul, Nat.reduceSub, Nat.reduceLT, Nat.reduceLeDiff, Nat.reduceEqDiff]
  (refine hK _ _ ?_; (try clear hK); (try clear K))
  have hrest : ∀ {env : Env} {st : St} (q : R), Sub env [(0, .ref 0 0), (1, .clo (.func g) [.ref 0 0] []), (4, .ref 1 0)] → st = ⟨[rPV q, [.int .i64 0, .int .i64 0, .str [], .str [], .int .i64 0, .int .i64 0, .str [], .list 0 [] .nil]], []⟩ →
      q = deepM r → K0 env st := by
    rintro env st q hsub rfl hq
    have hqd : q.d = r.d + 1 := by
      rw [hq]
      unfold deepM
      split
      · exact failM_d _ _
      · rfl
    refine hK0 _ _ (PW.less _ hsub ?_)
    clear hK0 K0
    refine PW.seq_k fun K0 hK0 => ?_
    have hlast : ∀ {env : Env} {st : St} (q : R) (xs : List PV), Sub env [(0, .ref 0 0), (4, .ref 1 0)] → st = ⟨[rPV q, xs], []⟩ → q.d = r.d + 1 → q.deep (-1) = (withM one r).2 → xs.length = 8 → Weak (.agg xs) (exPV (withM one r).1) → xs.all PV.isCell = true → K0 env st := by
      rintro env st q xs hsub rfl hqd hq hl hw' hall
      have hw2 : IntKind.i64.wrap (q.d - 1) = q.d + -1 := by rw [show q.d - 1 = q.d + -1 from by omega]; exact wrap_small (by omega) (by omega)
      refine hK0 _ _ (PW.less _ hsub ?_)
      have htk : xs.take 8 = xs := List.take_of_length_le (by omega)
      have hdp : xs.drop 8 = [] := List.drop_eq_nil_of_le (by omega)
      refine PW.go tab_ok [] fun K hK => ?_
      simp only [rPV, rdPV, hw2, go_sem, ↓reduceIte, reduceCtorEq, Nat.reduceBEq, Nat.reduceAdd, Nat.reduceMul, Nat.reduceSub, Nat.reduceLT, Nat.reduceLeDiff, Nat.reduceEqDiff]
      (refine hK _ _ ?_; (try clear hK); (try clear K))
      refine PW.go tab_ok [] fun K hK => ?_
      simp only [hl, htk, hdp, hall, go_sem, ↓reduceIte, reduceCtorEq, Nat.reduceBEq, Nat.reduceAdd, Nat.reduceMul, Nat.reduceSub, Nat.reduceLT, Nat.reduceLeDiff, Nat.reduceEqDiff]
      (refine hK _ _ ?_; (try clear hK); (try clear K))
      refine PW.ret (OneM.fin (r' := (withM one r).2) (.inl rfl) (xs := [.agg xs]) ?_ ?_ hw' (exPV_clean _))
      · exact res_cell rfl rfl (by simp only [hl, htk, hdp, hall, go_sem, ↓reduceIte, reduceCtorEq, Nat.reduceBEq, Nat.reduceAdd, Nat.reduceMul, Nat.reduceSub, Nat.reduceLT, Nat.reduceLeDiff, Nat.reduceEqDiff])
      · rw [← hq]; rfl
    refine PW.go tab_ok [] fun K hK => ?_
    simp only [go_sem, ↓reduceIte, reduceCtorEq, Nat.reduceBEq, Nat.reduceAdd, Nat.reduceMul, Nat.reduceSub, Nat.reduceLT, Nat.reduceLeDiff, Nat.reduceEqDiff]
    refine (fine_pc q.ts q.d q.c q.a).use 0 rfl .nil rfl (rd_clean _ _ _ _) ?_
    rintro _ _ ⟨rfl, rfl⟩ _ _
    refine PO.go tab_ok [] ?_
    simp only [go_sem, ↓reduceIte, reduceCtorEq, Nat.reduceBEq, Nat.reduceAdd, Nat.reduceMul, Nat.reduceSub, Nat.reduceLT, Nat.reduceLeDiff, Nat.reduceEqDiff]
    (refine hK _ _ ?_; (try clear hK); (try clear K))
    refine PW.cond_split (b := q.c == 0) rfl ?_ ?_ <;> intro hb
    · have hc : q.c = 0 := by simpa using hb
      have hq1 : ¬ r.d + 1 > 10 := by
        intro h10
        unfold deepM at hq
        rw [if_pos h10] at hq
        exact failM_c 10 (r.deep 1) (by decide) (by rw [← hq]; exact hc)
      have hq' := hq
      unfold deepM at hq
      rw [if_neg hq1] at hq
      subst hq
      obtain ⟨h1, h2⟩ := hone (by simpa [R.deep] using hc) (by omega)
      refine PW.goL tab_ok [] fun K hK => ?_
      simp only [go_sem, ↓reduceIte, reduceCtorEq, Nat.reduceBEq, Nat.reduceAdd, Nat.reduceMul, Nat.reduceSub, Nat.reduceLT, Nat.reduceLeDiff, Nat.reduceEqDiff]
      refine h1.use 0 rfl (Weaks.refl _) rfl ?_
      refine PO.go tab_ok [] ?_
      simp only [exPV_cells, exC_len, exC_all, go_sem, ↓reduceIte, reduceCtorEq, Nat.reduceBEq, Nat.reduceAdd, Nat.reduceMul, Nat.reduceSub, Nat.reduceLT, Nat.reduceLeDiff, Nat.reduceEqDiff]
      (refine hK _ _ ?_; (try clear hK); (try clear K))
      refine hlast (one (r.deep 1)).2 (exC (one (r.deep 1)).1) (by simp [Sub, eget]) rfl h2 ?_ (exC_len _) ?_ (exC_all _)
      · simp [withM, ← hq', hc]
      · simp only [withM, ← hq', hc, if_true]
        exact .refl _
    · have hc : q.c ≠ 0 := by simpa using hb
      refine PW.skip ?_
      refine hlast q [.int .i64 0, .int .i64 0, .str [], .str [], .int .i64 0, .int .i64 0, .str [], .list 0 [] .nil] (by simp [Sub, eget]) rfl hqd ?_ rfl ?_ rfl
      · simp only [withM, ← hq, hc, if_false]
      · simp only [withM, ← hq, hc, if_false]
        exact ex_weak _ _ _ _ _ _ _
  refine PW.cond_split (b := decide (r.d + 1 > 10)) rfl ?_ ?_ <;> intro hb
  · have h10 : r.d + 1 > 10 := by simpa using hb
    refine PW.goL tab_ok [] fun K hK => ?_
    simp only [go_sem, ↓reduceIte, reduceCtorEq, Nat.reduceBEq, Nat.reduceAdd, Nat.reduceMul, Nat.reduceSub, Nat.reduceLT, Nat.reduceLeDiff, Nat.reduceEqDiff]
    refine (fail_pc' (r := r.deep 1) h 10).use 0 rfl (Weaks.refl _) rfl ?_
    refine PO.go tab_ok [] ?_
    simp only [go_sem, ↓reduceIte, reduceCtorEq, Nat.reduceBEq, Nat.reduceAdd, Nat.reduceMul, Nat.reduceSub, Nat.reduceLT, Nat.reduceLeDiff, Nat.reduceEqDiff]
    (refine hK _ _ ?_; (try clear hK); (try clear K))
    exact hrest (failM 10 (r.deep 1)) (by simp [Sub, eget]) rfl (by rw [deepM, if_pos h10])
  · have h10 : ¬ r.d + 1 > 10 := by simpa using hb
    exact PW.skip (hrest (r.deep 1) (by simp [Sub, eget]) rfl (by rw [deepM, if_neg h10]))
end Go.Proofs.YtpepmfhemjeocaaGreatDoor
end
section
/- The parser's reader: rows of operators. -/
set_option linter.unusedVariables false
set_option linter.unusedSimpArgs false
namespace Go.Proofs.YtpepmfhemjeocaaGreatDoor
open Go

/-- A method that reads a tree. -/
structure Fn (g : FuncId) (d : Int) (m : R → Ex × R) : Prop where
  pc : ∀ q : R, q.ok → q.d = d → OneM Tryz.prog g [] q (exPV (m q).1) (m q).2
  ok : ∀ q : R, q.ok → (m q).2.ok
  dd : ∀ q : R, (m q).2.d = q.d
  le : ∀ q : R, (m q).2.ts.length ≤ q.ts.length
def opM (o : Int) (e f : Ex) : Ex := .mk 3 o [] [] v0 [e, f]
def rowL (below : R → Ex × R) (first : Int) (ops : List Str) : Nat → Ex → R → Ex × R
  | 0, e, r => (e, r)
  | n + 1, e, r => if (passM ops r).1 < 0 then (e, (passM ops r).2) else rowL below first ops n (opM (first + (passM ops r).1) e (below (passM ops r).2).1) (below (passM ops r).2).2
def rowM (below : R → Ex × R) (first : Int) (ops : List Str) (r : R) : Ex × R := rowL below first ops (below r).2.ts.length (below r).1 (below r).2
theorem R.ok.pos {r : R} (h : r.ok) : 1 ≤ r.ts.length := by
  obtain ⟨t, ts, h1, _⟩ := h.cons
  rw [h1]
  simp
theorem passM_lt_len (ls : List Str) (r : R) : (passM ls r).1 < ls.length := by
  simp only [passM, isM]
  split
  · exact (idx_ge ls _).2
  · omega
theorem passM_d (ls : List Str) (r : R) : (passM ls r).2.d = r.d := by unfold passM; split <;> rfl
theorem tail_le (r : R) : r.tail.ts.length ≤ r.ts.length := by simp [R.tail]
theorem tail_lt {r : R} (h : 1 ≤ r.ts.length) : r.tail.ts.length + 1 ≤ r.ts.length := by simp [R.tail]; omega
theorem passM_le (ls : List Str) (r : R) : (passM ls r).2.ts.length ≤ r.ts.length := by
  unfold passM
  split
  · exact tail_le r
  · exact Nat.le_refl _
theorem passM_lt {ls : List Str} {r : R} (h : r.ok) (hk : 0 ≤ (passM ls r).1) : (passM ls r).2.ts.length + 1 ≤ r.ts.length := by
  have hk' : 0 ≤ isM ls r := hk
  simp only [passM, if_pos hk']
  exact tail_lt h.pos
theorem rowL_d {below : R → Ex × R} (hb : ∀ q, (below q).2.d = q.d) (first : Int) (ops : List Str) : ∀ (n : Nat) (e : Ex) (r : R), (rowL below first ops n e r).2.d = r.d
  | 0, e, r => rfl
  | n + 1, e, r => by
    unfold rowL
    split
    · exact passM_d ops r
    · rw [rowL_d hb first ops n, hb, passM_d]
theorem rowL_le {below : R → Ex × R} (hb : ∀ q, (below q).2.ts.length ≤ q.ts.length) (first : Int) (ops : List Str) : ∀ (n : Nat) (e : Ex) (r : R), (rowL below first ops n e r).2.ts.length ≤ r.ts.length
  | 0, e, r => Nat.le_refl _
  | n + 1, e, r => by
    unfold rowL
    split
    · exact passM_le ops r
    · exact Nat.le_trans (rowL_le hb first ops n _ _) (Nat.le_trans (hb _) (passM_le ops r))
theorem rowL_ok {below : R → Ex × R} (hb : ∀ q : R, q.ok → (below q).2.ok) (first : Int) (ops : List Str) : ∀ (n : Nat) (e : Ex) (r : R), r.ok → (rowL below first ops n e r).2.ok
  | 0, e, r, h => h
  | n + 1, e, r, h => by
    unfold rowL
    split
    · exact passM_ok h
    · exact rowL_ok hb first ops n _ _ (hb _ (passM_ok h))

def ex8 : List PV := [.int .i64 0, .int .i64 0, .str [], .str [], .int .i64 0, .int .i64 0, .str [], .list 0 [] .nil]
theorem r_all (r : R) : (rPV r).all PV.isCell = true := rfl
theorem left_app {box rest : List (List PV)} {len : List Nat} (hcell : ∀ cs ∈ box, cs.all PV.isCell = true) (hclean : ∀ cs ∈ box, PVs.clean box.length 0 cs = true) : Left ⟨box ++ rest, len⟩ ⟨box, []⟩ := by
  refine ⟨?_, by simp, hclean⟩
  simp only [List.take_left']
  exact Boxes.refl (fun cs h c hc => List.all_eq_true.1 (hcell cs h) c hc)
theorem row_pc {g : FuncId} {d : Int} {below : R → Ex × R} (hb : Fn g d below) {first : Int} (hf0 : 0 ≤ first) (hf1 : first ≤ 1000) {ops : List Str} (hl : ops.length ≤ 1000) {r : R} (h : r.ok) (hd : r.d = d) :
    OneC Tryz.prog 111 g [.int .i64 first, .list 1 (strs ops) .no] r (exPV (rowM below first ops r).1) (rowM below first ops r).2 := by
  refine PC.intro tab_ok Tryz.func111 rfl (by kernel_rfl) Tryz.ntmps111 (Nat.le_of_ble_eq_true rfl) (rs := _) (congrArg Array.toList Tryz.results111) ?_
  refine PW.go tab_ok [] fun K hK => ?_
  simp only [go_sem, ↓reduceIte, reduceCtorEq, Nat.reduceBEq, Nat.reduceAdd, Nat.reduceMul, Nat.reduceSub, Nat.reduceLT, Nat.reduceLeDiff, Nat.reduceEqDiff]
  (refine hK _ _ ?_; (try clear hK); (try clear K))
  refine PW.go tab_ok [] fun K hK => ?_
  simp only [go_sem, ↓reduceIte, reduceCtorEq, Nat.reduceBEq, Nat.reduceAdd, Nat.reduceMul, Nat.reduceSub, Nat.reduceLT, Nat.reduceLeDiff, Nat.reduceEqDiff]
  refine (hb.pc r h hd).use 0 rfl (Weaks.refl _) rfl ?_
  refine PO.go tab_ok [] ?_
  simp only [exPV_cells, exC_len, exC_all, go_sem, ↓reduceIte, reduceCtorEq, Nat.reduceBEq, Nat.reduceAdd, Nat.reduceMul, Nat.reduceSub, Nat.reduceLT, Nat.reduceLeDiff, Nat.reduceEqDiff]
  (refine hK _ _ ?_; (try clear hK); (try clear K))
  refine PW.seq_k fun K0 hK0 => ?_
  refine PW.go tab_ok [] fun K hK => ?_
  simp only [go_sem, ↓reduceIte, reduceCtorEq, Nat.reduceBEq, Nat.reduceAdd, Nat.reduceMul, Nat.reduceSub, Nat.reduceLT, Nat.reduceLeDiff, Nat.reduceEqDiff]
  refine (pass_pc (by omega) (hb.ok r h)).use 0 rfl (Weaks.refl _) (strs_clean1 ops) ?_
  refine PO.go tab_ok [] ?_
  simp only [go_sem, ↓reduceIte, reduceCtorEq, Nat.reduceBEq, Nat.reduceAdd, Nat.reduceMul, Nat.reduceSub, Nat.reduceLT, Nat.reduceLeDiff, Nat.reduceEqDiff]
  (refine hK _ _ ?_; (try clear hK); (try clear K))
  refine PW.block (PW.loop (α := Nat × Ex × R) (fun a => [(10, .int .i64 (passM ops a.2.2).1), (9, .ref 2 0), (8, .ref 1 0), (0, .ref 0 0), (1, .clo (.func g) [.ref 0 0] []), (2, .int .i64 first), (3, .list 1 (strs ops) .no)])
    (fun a => ⟨[rPV (passM ops a.2.2).2, [.int .i64 0, .int .i64 0, .str [], .str [], .int .i64 0, .int .i64 0, .str [], .list 0 [] .nil], exC a.2.1], []⟩)
    (fun a => a.2.2.ok ∧ a.2.2.d = d ∧ a.2.2.ts.length ≤ a.1 ∧ rowL below first ops a.1 a.2.1 a.2.2 = rowM below first ops r) (fun a => a.1) ((below r).2.ts.length, (below r).1, (below r).2)
    ⟨hb.ok r h, by rw [hb.dd, hd], Nat.le_refl _, rfl⟩ ?_ rfl (fun _ _ => ⟨rfl, rfl⟩) ?_)
  · simp [Sub, eget]
  rintro ⟨n, e, q⟩ ⟨hq, hqd, hqn, hqr⟩
  simp only at hq hqd hqn hqr
  refine PW.seq_k fun K2 hK2 => ?_
  refine PW.go tab_ok [] fun K hK => ?_
  simp only [go_sem, ↓reduceIte, reduceCtorEq, Nat.reduceBEq, Nat.reduceAdd, Nat.reduceMul, Nat.reduceSub, Nat.reduceLT, Nat.reduceLeDiff, Nat.reduceEqDiff]
  (refine hK _ _ ?_; (try clear hK); (try clear K))
  refine PW.cond_split (b := decide ((passM ops q).1 ≥ 0)) rfl ?_ ?_ <;> intro hc
  · have hk : 0 ≤ (passM ops q).1 := by simpa using hc
    have hk' : ¬ (passM ops q).1 < 0 := by omega
    have hkl : (passM ops q).1 < ops.length := passM_lt_len ops q
    refine PW.skip (hK2 _ _ ?_)
    clear hK2 K2
    refine PW.seq_k fun K3 hK3 => PW.block ?_
    refine PW.go tab_ok [] fun K hK => ?_
    simp only [go_sem, ↓reduceIte, reduceCtorEq, Nat.reduceBEq, Nat.reduceAdd, Nat.reduceMul, Nat.reduceSub, Nat.reduceLT, Nat.reduceLeDiff, Nat.reduceEqDiff]
    refine (hb.pc (passM ops q).2 (passM_ok hq) (by rw [passM_d, hqd])).use 0 rfl (Weaks.refl _) rfl ?_
    refine PO.go tab_ok [] ?_
    simp only [exPV_cells, exC_len, exC_all, go_sem, ↓reduceIte, reduceCtorEq, Nat.reduceBEq, Nat.reduceAdd, Nat.reduceMul, Nat.reduceSub, Nat.reduceLT, Nat.reduceLeDiff, Nat.reduceEqDiff]
    (refine hK _ _ ?_; (try clear hK); (try clear K))
    have hw : IntKind.i64.wrap (first + (passM ops q).1) = first + (passM ops q).1 := wrap_small (by omega) (by omega)
    refine PW.goL tab_ok [] fun K hK => ?_
    simp only [hw, exPV_cells, exC_len, exC_all, exC_take, exC_drop, agg_exC, go_sem, ↓reduceIte, reduceCtorEq, Nat.reduceBEq, Nat.reduceAdd, Nat.reduceMul, Nat.reduceSub, Nat.reduceLT, Nat.reduceLeDiff, Nat.reduceEqDiff]
    (refine hK _ _ ?_; (try clear hK); (try clear K))
    refine hK3 _ _ ?_
    clear hK3 K3
    refine PW.goL tab_ok [] fun K hK => ?_
    simp only [go_sem, ↓reduceIte, reduceCtorEq, Nat.reduceBEq, Nat.reduceAdd, Nat.reduceMul, Nat.reduceSub, Nat.reduceLT, Nat.reduceLeDiff, Nat.reduceEqDiff]
    refine (pass_pc (by omega) (hb.ok _ (passM_ok hq))).use 0 rfl (Weaks.refl _) (strs_clean1 ops) ?_
    refine PO.go tab_ok [] ?_
    simp only [go_sem, ↓reduceIte, reduceCtorEq, Nat.reduceBEq, Nat.reduceAdd, Nat.reduceMul, Nat.reduceSub, Nat.reduceLT, Nat.reduceLeDiff, Nat.reduceEqDiff]
    (refine hK _ _ ?_; (try clear hK); (try clear K))
    have hpos : 1 ≤ n := Nat.le_trans hq.pos hqn
    obtain ⟨m, rfl⟩ : ∃ m, n = m + 1 := ⟨n - 1, by omega⟩
    refine ⟨(m, opM (first + (passM ops q).1) e (below (passM ops q).2).1, (below (passM ops q).2).2), ⟨hb.ok _ (passM_ok hq), by rw [hb.dd, passM_d, hqd], ?_, ?_⟩, by simp, by simp [Sub, eget], ?_, ?_⟩
    · have h1 := hb.le (passM ops q).2
      have h2 := passM_lt hq hk
      simp only at hqn ⊢
      omega
    · rw [← hqr]
      simp only [rowL, if_neg hk']
    · refine left_app (box := [rPV (passM ops (below (passM ops q).2).2).2, ex8, exC (opM (first + (passM ops q).1) e (below (passM ops q).2).1)]) (rest := [_]) ?_ ?_
      · intro cs hcs
        simp only [List.mem_cons, List.not_mem_nil, or_false] at hcs
        rcases hcs with rfl | rfl | rfl
        · exact r_all _
        · rfl
        · exact exC_all _
      · intro cs hcs
        simp only [List.mem_cons, List.not_mem_nil, or_false] at hcs
        rcases hcs with rfl | rfl | rfl
        · exact PVs.clean_data (r_clean _)
        · rfl
        · exact PVs.clean_data (ex_clean _)
    · simp [Env.clean, PV.clean, PVs.clean_data (strs_clean ops), PVs.clean]
  · have hk : ¬ 0 ≤ (passM ops q).1 := by simpa using hc
    have hk' : (passM ops q).1 < 0 := by omega
    refine PW.exit (hK0 _ _ ?_)
    clear hK0 hK2 K2 K0
    have hpos : 1 ≤ n := Nat.le_trans hq.pos hqn
    obtain ⟨m, rfl⟩ : ∃ m, n = m + 1 := ⟨n - 1, by omega⟩
    simp only [rowL, if_pos hk'] at hqr
    refine PW.go tab_ok [] fun K hK => ?_
    simp only [exPV_cells, exC_len, exC_all, exC_take, exC_drop, agg_exC, go_sem, ↓reduceIte, reduceCtorEq, Nat.reduceBEq, Nat.reduceAdd, Nat.reduceMul, Nat.reduceSub, Nat.reduceLT, Nat.reduceLeDiff, Nat.reduceEqDiff]
    (refine hK _ _ ?_; (try clear hK); (try clear K))
    refine PW.ret (OneM.fin (r' := (rowM below first ops r).2) (.inl rfl) (res_cell (x := exPV e) rfl rfl (by simp only [exPV_cells, exC_len, exC_all, exC_take, exC_drop, agg_exC, go_sem, ↓reduceIte, reduceCtorEq, Nat.reduceBEq, Nat.reduceAdd, Nat.reduceMul, Nat.reduceSub, Nat.reduceLT, Nat.reduceLeDiff, Nat.reduceEqDiff])) ?_ ?_ (exPV_clean _))
    · rw [← hqr]
    · rw [← hqr]
      exact .refl _
end Go.Proofs.YtpepmfhemjeocaaGreatDoor
end
section
/- The parser's reader: the levels of an expression. -/
set_option linter.unusedVariables false
set_option linter.unusedSimpArgs false
namespace Go.Proofs.YtpepmfhemjeocaaGreatDoor
open Go

theorem rowM_fn {below : R → Ex × R} (first : Int) (ops : List Str) (hok : ∀ q : R, q.ok → (below q).2.ok) (hdd : ∀ q : R, (below q).2.d = q.d) (hle : ∀ q : R, (below q).2.ts.length ≤ q.ts.length) :
    (∀ q : R, q.ok → (rowM below first ops q).2.ok) ∧ (∀ q : R, (rowM below first ops q).2.d = q.d) ∧ ∀ q : R, (rowM below first ops q).2.ts.length ≤ q.ts.length :=
  ⟨fun q h => rowL_ok hok first ops _ _ _ (hok q h), fun q => (rowL_d hdd first ops _ _ _).trans (hdd q), fun q => Nat.le_trans (rowL_le hle first ops _ _ _) (hle q)⟩
def termOps : List Str := [[42], [47], [37]]
theorem term_fn {d : Int} {below : R → Ex × R} (hb : Fn 210 d below) : Fn 206 d (rowM below 11 termOps) := by
  obtain ⟨h1, h2, h3⟩ := rowM_fn 11 termOps hb.ok hb.dd hb.le
  refine ⟨fun r h hd => ?_, h1, h2, h3⟩
  refine PC.intro tab_ok Tryz.func206 rfl (by kernel_rfl) Tryz.ntmps206 (Nat.le_of_ble_eq_true rfl) (rs := _) (congrArg Array.toList Tryz.results206) ?_
  refine PW.go tab_ok [] fun K hK => ?_
  simp only [go_sem, ↓reduceIte, reduceCtorEq, Nat.reduceBEq, Nat.reduceAdd, Nat.reduceMul, Nat.reduceSub, Nat.reduceLT, Nat.reduceLeDiff, Nat.reduceEqDiff]
  (refine hK _ _ ?_; (try clear hK); (try clear K))
  refine PW.go tab_ok [] fun K hK => ?_
  simp only [go_sem, ↓reduceIte, reduceCtorEq, Nat.reduceBEq, Nat.reduceAdd, Nat.reduceMul, Nat.reduceSub, Nat.reduceLT, Nat.reduceLeDiff, Nat.reduceEqDiff]
  refine (row_pc hb (first := 11) (by omega) (by omega) (ops := termOps) (by decide) h hd).use 0 rfl (Weaks.refl _) (by simp [PVs.clean, PV.clean, strs_clean]) ?_
  refine PO.go tab_ok [] ?_
  simp only [exPV_cells, exC_len, exC_all, exC_take, exC_drop, agg_exC, go_sem, ↓reduceIte, reduceCtorEq, Nat.reduceBEq, Nat.reduceAdd, Nat.reduceMul, Nat.reduceSub, Nat.reduceLT, Nat.reduceLeDiff, Nat.reduceEqDiff]
  (refine hK _ _ ?_; (try clear hK); (try clear K))
  exact PW.ret (OneM.fin (.inl rfl) (res_cell (x := exPV (rowM below 11 termOps r).1) rfl rfl (by simp only [exPV_cells, exC_len, exC_all, exC_take, exC_drop, agg_exC, go_sem, ↓reduceIte, reduceCtorEq, Nat.reduceBEq, Nat.reduceAdd, Nat.reduceMul, Nat.reduceSub, Nat.reduceLT, Nat.reduceLeDiff, Nat.reduceEqDiff])) rfl (.refl _) (exPV_clean _))
def sumOps : List Str := [[43], [45]]
theorem sum_fn {d : Int} {below : R → Ex × R} (hb : Fn 206 d below) : Fn 197 d (rowM below 9 sumOps) := by
  obtain ⟨h1, h2, h3⟩ := rowM_fn 9 sumOps hb.ok hb.dd hb.le
  refine ⟨fun r h hd => ?_, h1, h2, h3⟩
  refine PC.intro tab_ok Tryz.func197 rfl (by kernel_rfl) Tryz.ntmps197 (Nat.le_of_ble_eq_true rfl) (rs := _) (congrArg Array.toList Tryz.results197) ?_
  refine PW.go tab_ok [] fun K hK => ?_
  simp only [go_sem, ↓reduceIte, reduceCtorEq, Nat.reduceBEq, Nat.reduceAdd, Nat.reduceMul, Nat.reduceSub, Nat.reduceLT, Nat.reduceLeDiff, Nat.reduceEqDiff]
  (refine hK _ _ ?_; (try clear hK); (try clear K))
  refine PW.go tab_ok [] fun K hK => ?_
  simp only [go_sem, ↓reduceIte, reduceCtorEq, Nat.reduceBEq, Nat.reduceAdd, Nat.reduceMul, Nat.reduceSub, Nat.reduceLT, Nat.reduceLeDiff, Nat.reduceEqDiff]
  refine (row_pc hb (first := 9) (by omega) (by omega) (ops := sumOps) (by decide) h hd).use 0 rfl (Weaks.refl _) (by simp [PVs.clean, PV.clean, strs_clean]) ?_
  refine PO.go tab_ok [] ?_
  simp only [exPV_cells, exC_len, exC_all, exC_take, exC_drop, agg_exC, go_sem, ↓reduceIte, reduceCtorEq, Nat.reduceBEq, Nat.reduceAdd, Nat.reduceMul, Nat.reduceSub, Nat.reduceLT, Nat.reduceLeDiff, Nat.reduceEqDiff]
  (refine hK _ _ ?_; (try clear hK); (try clear K))
  exact PW.ret (OneM.fin (.inl rfl) (res_cell (x := exPV (rowM below 9 sumOps r).1) rfl rfl (by simp only [exPV_cells, exC_len, exC_all, exC_take, exC_drop, agg_exC, go_sem, ↓reduceIte, reduceCtorEq, Nat.reduceBEq, Nat.reduceAdd, Nat.reduceMul, Nat.reduceSub, Nat.reduceLT, Nat.reduceLeDiff, Nat.reduceEqDiff])) rfl (.refl _) (exPV_clean _))
def andOps : List Str := [[65, 78, 68]]
theorem and_fn {d : Int} {below : R → Ex × R} (hb : Fn 166 d below) : Fn 112 d (rowM below 2 andOps) := by
  obtain ⟨h1, h2, h3⟩ := rowM_fn 2 andOps hb.ok hb.dd hb.le
  refine ⟨fun r h hd => ?_, h1, h2, h3⟩
  refine PC.intro tab_ok Tryz.func112 rfl (by kernel_rfl) Tryz.ntmps112 (Nat.le_of_ble_eq_true rfl) (rs := _) (congrArg Array.toList Tryz.results112) ?_
  refine PW.go tab_ok [] fun K hK => ?_
  simp only [go_sem, ↓reduceIte, reduceCtorEq, Nat.reduceBEq, Nat.reduceAdd, Nat.reduceMul, Nat.reduceSub, Nat.reduceLT, Nat.reduceLeDiff, Nat.reduceEqDiff]
  (refine hK _ _ ?_; (try clear hK); (try clear K))
  refine PW.go tab_ok [] fun K hK => ?_
  simp only [go_sem, ↓reduceIte, reduceCtorEq, Nat.reduceBEq, Nat.reduceAdd, Nat.reduceMul, Nat.reduceSub, Nat.reduceLT, Nat.reduceLeDiff, Nat.reduceEqDiff]
  refine (row_pc hb (first := 2) (by omega) (by omega) (ops := andOps) (by decide) h hd).use 0 rfl (Weaks.refl _) (by simp [PVs.clean, PV.clean, strs_clean]) ?_
  refine PO.go tab_ok [] ?_
  simp only [exPV_cells, exC_len, exC_all, exC_take, exC_drop, agg_exC, go_sem, ↓reduceIte, reduceCtorEq, Nat.reduceBEq, Nat.reduceAdd, Nat.reduceMul, Nat.reduceSub, Nat.reduceLT, Nat.reduceLeDiff, Nat.reduceEqDiff]
  (refine hK _ _ ?_; (try clear hK); (try clear K))
  exact PW.ret (OneM.fin (.inl rfl) (res_cell (x := exPV (rowM below 2 andOps r).1) rfl rfl (by simp only [exPV_cells, exC_len, exC_all, exC_take, exC_drop, agg_exC, go_sem, ↓reduceIte, reduceCtorEq, Nat.reduceBEq, Nat.reduceAdd, Nat.reduceMul, Nat.reduceSub, Nat.reduceLT, Nat.reduceLeDiff, Nat.reduceEqDiff])) rfl (.refl _) (exPV_clean _))
def exprOps : List Str := [[79, 82]]
theorem expr_fn {d : Int} {below : R → Ex × R} (hb : Fn 112 d below) : Fn 46 d (rowM below 1 exprOps) := by
  obtain ⟨h1, h2, h3⟩ := rowM_fn 1 exprOps hb.ok hb.dd hb.le
  refine ⟨fun r h hd => ?_, h1, h2, h3⟩
  refine PC.intro tab_ok Tryz.func46 rfl (by kernel_rfl) Tryz.ntmps46 (Nat.le_of_ble_eq_true rfl) (rs := _) (congrArg Array.toList Tryz.results46) ?_
  refine PW.go tab_ok [] fun K hK => ?_
  simp only [go_sem, ↓reduceIte, reduceCtorEq, Nat.reduceBEq, Nat.reduceAdd, Nat.reduceMul, Nat.reduceSub, Nat.reduceLT, Nat.reduceLeDiff, Nat.reduceEqDiff]
  (refine hK _ _ ?_; (try clear hK); (try clear K))
  refine PW.go tab_ok [] fun K hK => ?_
  simp only [go_sem, ↓reduceIte, reduceCtorEq, Nat.reduceBEq, Nat.reduceAdd, Nat.reduceMul, Nat.reduceSub, Nat.reduceLT, Nat.reduceLeDiff, Nat.reduceEqDiff]
  refine (row_pc hb (first := 1) (by omega) (by omega) (ops := exprOps) (by decide) h hd).use 0 rfl (Weaks.refl _) (by simp [PVs.clean, PV.clean, strs_clean]) ?_
  refine PO.go tab_ok [] ?_
  simp only [exPV_cells, exC_len, exC_all, exC_take, exC_drop, agg_exC, go_sem, ↓reduceIte, reduceCtorEq, Nat.reduceBEq, Nat.reduceAdd, Nat.reduceMul, Nat.reduceSub, Nat.reduceLT, Nat.reduceLeDiff, Nat.reduceEqDiff]
  (refine hK _ _ ?_; (try clear hK); (try clear K))
  exact PW.ret (OneM.fin (.inl rfl) (res_cell (x := exPV (rowM below 1 exprOps r).1) rfl rfl (by simp only [exPV_cells, exC_len, exC_all, exC_take, exC_drop, agg_exC, go_sem, ↓reduceIte, reduceCtorEq, Nat.reduceBEq, Nat.reduceAdd, Nat.reduceMul, Nat.reduceSub, Nat.reduceLT, Nat.reduceLeDiff, Nat.reduceEqDiff])) rfl (.refl _) (exPV_clean _))
end Go.Proofs.YtpepmfhemjeocaaGreatDoor
end
section
/- The parser's reader: factor, test, not. -/
set_option linter.unusedVariables false
set_option linter.unusedSimpArgs false
namespace Go.Proofs.YtpepmfhemjeocaaGreatDoor
open Go

structure Sh (m : R → Ex × R) : Prop where
  ok : ∀ q : R, q.ok → (m q).2.ok
  dd : ∀ q : R, (m q).2.d = q.d
  le : ∀ q : R, (m q).2.ts.length ≤ q.ts.length
theorem Fn.sh {g : FuncId} {d : Int} {m : R → Ex × R} (h : Fn g d m) : Sh m := ⟨h.ok, h.dd, h.le⟩
theorem Sh.row {m : R → Ex × R} (h : Sh m) (first : Int) (ops : List Str) : Sh (rowM m first ops) :=
  let ⟨h1, h2, h3⟩ := rowM_fn first ops h.ok h.dd h.le
  ⟨h1, h2, h3⟩
theorem failM_ts (e : Int) (r : R) : (failM e r).ts = r.ts := by unfold failM; split <;> rfl
theorem failM_le (e : Int) (r : R) : (failM e r).ts.length ≤ r.ts.length := by rw [failM_ts]; exact Nat.le_refl _
theorem deep_ok {r : R} (h : r.ok) (n : Int) : (r.deep n).ok := h
theorem deepM_ok {r : R} (h : r.ok) : (deepM r).ok := by
  unfold deepM
  split
  · exact failM_ok (deep_ok h 1) 10
  · exact deep_ok h 1
theorem deepM_d (r : R) : (deepM r).d = r.d + 1 := by
  unfold deepM
  split
  · exact failM_d _ _
  · rfl
theorem deepM_le (r : R) : (deepM r).ts.length ≤ r.ts.length := by
  unfold deepM
  split
  · exact failM_le _ _
  · exact Nat.le_refl _
theorem withM_sh {one : R → Ex × R} (h : Sh one) : Sh (withM one) := by
  refine ⟨fun r hr => ?_, fun r => ?_, fun r => ?_⟩ <;> unfold withM <;> split
  · exact deep_ok (h.ok _ (deepM_ok hr)) (-1)
  · exact deep_ok (deepM_ok hr) (-1)
  · have h1 := h.dd (deepM r)
    have h2 := deepM_d r
    show (one (deepM r)).2.d + -1 = r.d
    omega
  · have h2 := deepM_d r
    show (deepM r).d + -1 = r.d
    omega
  · exact Nat.le_trans (h.le _) (deepM_le r)
  · exact deepM_le r
/-- within, of a method one deeper. -/
theorem within_fn {g : FuncId} {d : Int} {one : R → Ex × R} (hs : Sh one) (hp : d + 1 ≤ 10 → Fn g (d + 1) one) {r : R} (h : r.ok) (hd : r.d = d) (hd0 : 0 ≤ d) (hd1 : d ≤ 10) :
    OneC Tryz.prog 186 g [] r (exPV (withM one r).1) (withM one r).2 := by
  subst hd
  exact within_pc h hd0 hd1 fun _ h10 => ⟨(hp h10).pc (r.deep 1) (deep_ok h 1) rfl, hs.dd _⟩
theorem hasM_d (s : Str) (r : R) : (hasM s r).2.d = r.d := passM_d _ r
theorem hasM_le (s : Str) (r : R) : (hasM s r).2.ts.length ≤ r.ts.length := passM_le _ r
theorem mustM_d : ∀ (ls : List Str) (r : R), (mustM ls r).d = r.d
  | [], r => rfl
  | l :: ls, r => by
    unfold mustM
    rw [mustM_d ls]
    split
    · exact hasM_d l r
    · rw [failM_d, hasM_d]
theorem mustM_le : ∀ (ls : List Str) (r : R), (mustM ls r).ts.length ≤ r.ts.length
  | [], r => Nat.le_refl _
  | l :: ls, r => by
    unfold mustM
    refine Nat.le_trans (mustM_le ls _) ?_
    split
    · exact hasM_le l r
    · rw [failM_ts]; exact hasM_le l r
theorem takeM_d (k : Int) (r : R) : (takeM k r).2.d = r.d := by
  unfold takeM
  split
  · rfl
  · exact failM_d _ _
theorem takeM_le (k : Int) (r : R) : (takeM k r).2.ts.length ≤ r.ts.length := by
  unfold takeM
  split
  · exact tail_le r
  · exact failM_le _ _
theorem colM_sh : Sh colM := by
  refine ⟨fun r h => ?_, fun r => ?_, fun r => ?_⟩ <;> unfold colM <;> simp only <;> split
  · exact nameM_ok (hasM_ok (nameM_ok h))
  · exact hasM_ok (nameM_ok h)
  · simp only [nameM, takeM_d, hasM_d]
  · simp only [nameM, takeM_d, hasM_d]
  · exact Nat.le_trans (takeM_le _ _) (Nat.le_trans (hasM_le _ _) (takeM_le _ _))
  · exact Nat.le_trans (hasM_le _ _) (takeM_le _ _)
theorem litM_ok {r : R} (h : r.ok) : (litM r).2.ok := by
  obtain ⟨t, ts, h1, h2⟩ := h.cons
  have ht : (hd r).kind = t.kind := by simp [hd, h1]
  unfold litM
  split
  · exact h
  split
  · rename_i h3
    exact h2 (by rw [← ht, h3]; decide)
  split
  · rename_i h4
    exact h2 (by rw [← ht, h4]; decide)
  split
  · exact hasM_ok h
  · rename_i hn
    have hi : 0 ≤ isM [[45]] r := by omega
    have hok := isM_tail h hi
    obtain ⟨u, us, h3, h4⟩ := hok.cons
    refine h4 fun h6 => ?_
    have : (nxt r).kind = u.kind := by
      unfold nxt
      have : r.ts.tail = u :: us := h3
      rw [this]
      rfl
    exact hn (.inr (by rw [this, h6]; decide))
theorem litM_d (r : R) : (litM r).2.d = r.d := by
  unfold litM
  (repeat' split) <;> first | rfl | exact hasM_d _ _
theorem litM_le (r : R) : (litM r).2.ts.length ≤ r.ts.length := by
  unfold litM
  (repeat' split) <;> first | exact Nat.le_refl _ | exact tail_le r | exact hasM_le _ _ | exact Nat.le_trans (tail_le _) (tail_le r)

def sNOT : Str := [78, 79, 84]
def notM (nt test : R → Ex × R) (r : R) : Ex × R := if (hasM sNOT r).1 then (ofM 4 (withM nt (hasM sNOT r).2).1, (withM nt (hasM sNOT r).2).2) else test (hasM sNOT r).2
theorem notM_sh {nt test : R → Ex × R} (h : Sh nt) (ht : Sh test) : Sh (notM nt test) := by
  have hw := withM_sh h
  refine ⟨fun r hr => ?_, fun r => ?_, fun r => ?_⟩ <;> unfold notM <;> split
  · exact hw.ok _ (hasM_ok hr)
  · exact ht.ok _ (hasM_ok hr)
  · exact (hw.dd _).trans (hasM_d _ _)
  · exact (ht.dd _).trans (hasM_d _ _)
  · exact Nat.le_trans (hw.le _) (hasM_le _ _)
  · exact Nat.le_trans (ht.le _) (hasM_le _ _)
theorem not_fn {d : Int} (hd0 : 0 ≤ d) (hd1 : d ≤ 10) {nt test : R → Ex × R} (hs : Sh nt) (hp : d + 1 ≤ 10 → Fn 166 (d + 1) nt) (ht : Fn 187 d test) :
    Fn 166 d (notM nt test) := by
  obtain ⟨h1, h2, h3⟩ := notM_sh hs ht.sh
  refine ⟨fun r h hd => ?_, h1, h2, h3⟩
  refine PC.intro tab_ok Tryz.func166 rfl (by kernel_rfl) Tryz.ntmps166 (Nat.le_of_ble_eq_true rfl) (rs := _) (congrArg Array.toList Tryz.results166) ?_
  refine PW.go tab_ok [] fun K hK => ?_
  simp only [go_sem, ↓reduceIte, reduceCtorEq, Nat.reduceBEq, Nat.reduceAdd, Nat.reduceMul, Nat.reduceSub, Nat.reduceLT, Nat.reduceLeDiff, Nat.reduceEqDiff]
  (refine hK _ _ ?_; (try clear hK); (try clear K))
  refine PW.seq_k fun K0 hK0 => ?_
  refine PW.go tab_ok [] fun K hK => ?_
  simp only [go_sem, ↓reduceIte, reduceCtorEq, Nat.reduceBEq, Nat.reduceAdd, Nat.reduceMul, Nat.reduceSub, Nat.reduceLT, Nat.reduceLeDiff, Nat.reduceEqDiff]
  refine (has_pc (s := sNOT) h).use 0 rfl (Weaks.refl _) rfl ?_
  refine PO.go tab_ok [] ?_
  simp only [go_sem, ↓reduceIte, reduceCtorEq, Nat.reduceBEq, Nat.reduceAdd, Nat.reduceMul, Nat.reduceSub, Nat.reduceLT, Nat.reduceLeDiff, Nat.reduceEqDiff]
  (refine hK _ _ ?_; (try clear hK); (try clear K))
  refine PW.cond_split (b := (hasM sNOT r).1) rfl ?_ ?_ <;> intro hb
  · refine PW.go tab_ok [] fun K hK => ?_
    simp only [go_sem, ↓reduceIte, reduceCtorEq, Nat.reduceBEq, Nat.reduceAdd, Nat.reduceMul, Nat.reduceSub, Nat.reduceLT, Nat.reduceLeDiff, Nat.reduceEqDiff]
    refine (within_fn hs hp (hasM_ok h) (by rw [hasM_d, hd]) hd0 hd1).use 0 rfl (Weaks.refl _) rfl ?_
    refine PO.go tab_ok [] ?_
    simp only [go_sem, ↓reduceIte, reduceCtorEq, Nat.reduceBEq, Nat.reduceAdd, Nat.reduceMul, Nat.reduceSub, Nat.reduceLT, Nat.reduceLeDiff, Nat.reduceEqDiff]
    refine (of_pc 4 (withM nt (hasM sNOT r).2).1).use (Weaks.refl _) (by simp [PVs.clean, PV.clean, exPV_clean]) (exPV_clean _) ?_
    refine PO.go tab_ok [] ?_
    simp only [exPV_cells, exC_len, exC_all, exC_take, exC_drop, agg_exC, go_sem, ↓reduceIte, reduceCtorEq, Nat.reduceBEq, Nat.reduceAdd, Nat.reduceMul, Nat.reduceSub, Nat.reduceLT, Nat.reduceLeDiff, Nat.reduceEqDiff]
    (refine hK _ _ ?_; (try clear hK); (try clear K))
    refine PW.ret (OneM.fin (r' := (notM nt test r).2) (.inl rfl) (res_cell (x := exPV (ofM 4 (withM nt (hasM sNOT r).2).1)) rfl rfl (by simp only [exPV_cells, exC_len, exC_all, exC_take, exC_drop, agg_exC, go_sem, ↓reduceIte, reduceCtorEq, Nat.reduceBEq, Nat.reduceAdd, Nat.reduceMul, Nat.reduceSub, Nat.reduceLT, Nat.reduceLeDiff, Nat.reduceEqDiff])) ?_ ?_ (exPV_clean _))
    · simp [notM, hb]
    · simp [notM, hb, resPV]
  · refine PW.skip (hK0 _ _ ?_)
    refine PW.go tab_ok [] fun K hK => ?_
    simp only [go_sem, ↓reduceIte, reduceCtorEq, Nat.reduceBEq, Nat.reduceAdd, Nat.reduceMul, Nat.reduceSub, Nat.reduceLT, Nat.reduceLeDiff, Nat.reduceEqDiff]
    refine (ht.pc (hasM sNOT r).2 (hasM_ok h) (by rw [hasM_d, hd])).use 0 rfl (Weaks.refl _) rfl ?_
    refine PO.go tab_ok [] ?_
    simp only [exPV_cells, exC_len, exC_all, exC_take, exC_drop, agg_exC, go_sem, ↓reduceIte, reduceCtorEq, Nat.reduceBEq, Nat.reduceAdd, Nat.reduceMul, Nat.reduceSub, Nat.reduceLT, Nat.reduceLeDiff, Nat.reduceEqDiff]
    (refine hK _ _ ?_; (try clear hK); (try clear K))
    refine PW.ret (OneM.fin (r' := (notM nt test r).2) (.inl rfl) (res_cell (x := exPV (test (hasM sNOT r).2).1) rfl rfl (by simp only [exPV_cells, exC_len, exC_all, exC_take, exC_drop, agg_exC, go_sem, ↓reduceIte, reduceCtorEq, Nat.reduceBEq, Nat.reduceAdd, Nat.reduceMul, Nat.reduceSub, Nat.reduceLT, Nat.reduceLeDiff, Nat.reduceEqDiff])) ?_ ?_ (exPV_clean _))
    · simp [notM, hb]
    · simp [notM, hb, resPV]
end Go.Proofs.YtpepmfhemjeocaaGreatDoor
end
section
/- The parser's reader: test, factor. -/
set_option linter.unusedVariables false
set_option linter.unusedSimpArgs false
namespace Go.Proofs.YtpepmfhemjeocaaGreatDoor
open Go

def testOps : List Str := [[61], [60, 62], [60], [60, 61], [62], [62, 61], [73, 83]]
def testM (sum : R → Ex × R) (r : R) : Ex × R :=
  if (passM testOps (sum r).2).1 < 0 then ((sum r).1, (passM testOps (sum r).2).2)
  else if 3 + (passM testOps (sum r).2).1 ≤ 8 then (opM (3 + (passM testOps (sum r).2).1) (sum r).1 (sum (passM testOps (sum r).2).2).1, (sum (passM testOps (sum r).2).2).2)
  else (if (hasM sNOT (passM testOps (sum r).2).2).1 then ofM 4 (ofM 6 (sum r).1) else ofM 6 (sum r).1, mustM [sNULL] (hasM sNOT (passM testOps (sum r).2).2).2)
theorem testM_sh {sum : R → Ex × R} (h : Sh sum) : Sh (testM sum) := by
  refine ⟨fun r hr => ?_, fun r => ?_, fun r => ?_⟩ <;> unfold testM <;> (repeat' split)
  all_goals first
    | exact passM_ok (h.ok _ hr)
    | exact h.ok _ (passM_ok (h.ok _ hr))
    | exact mustM_ok (hasM_ok (passM_ok (h.ok _ hr)))
    | exact (passM_d _ _).trans (h.dd _)
    | exact (h.dd _).trans ((passM_d _ _).trans (h.dd _))
    | exact (mustM_d _ _).trans ((hasM_d _ _).trans ((passM_d _ _).trans (h.dd _)))
    | exact Nat.le_trans (passM_le _ _) (h.le _)
    | exact Nat.le_trans (h.le _) (Nat.le_trans (passM_le _ _) (h.le _))
    | exact Nat.le_trans (mustM_le _ _) (Nat.le_trans (hasM_le _ _) (Nat.le_trans (passM_le _ _) (h.le _)))
theorem test_fn {d : Int} {sum : R → Ex × R} (hs : Fn 197 d sum) : Fn 187 d (testM sum) := by
  obtain ⟨h1, h2, h3⟩ := testM_sh hs.sh
  refine ⟨fun r h hd => ?_, h1, h2, h3⟩
  refine PC.intro tab_ok Tryz.func187 rfl (by kernel_rfl) Tryz.ntmps187 (Nat.le_of_ble_eq_true rfl) (rs := _) (congrArg Array.toList Tryz.results187) ?_
  refine PW.go tab_ok [] fun K hK => ?_
  simp only [go_sem, ↓reduceIte, reduceCtorEq, Nat.reduceBEq, Nat.reduceAdd, Nat.reduceMul, Nat.reduceSub, Nat.reduceLT, Nat.reduceLeDiff, Nat.reduceEqDiff]
  (refine hK _ _ ?_; (try clear hK); (try clear K))
  refine PW.go tab_ok [] fun K hK => ?_
  simp only [go_sem, ↓reduceIte, reduceCtorEq, Nat.reduceBEq, Nat.reduceAdd, Nat.reduceMul, Nat.reduceSub, Nat.reduceLT, Nat.reduceLeDiff, Nat.reduceEqDiff]
  refine (hs.pc r h hd).use 0 rfl (Weaks.refl _) rfl ?_
  refine PO.go tab_ok [] ?_
  simp only [exPV_cells, exC_len, exC_all, go_sem, ↓reduceIte, reduceCtorEq, Nat.reduceBEq, Nat.reduceAdd, Nat.reduceMul, Nat.reduceSub, Nat.reduceLT, Nat.reduceLeDiff, Nat.reduceEqDiff]
  (refine hK _ _ ?_; (try clear hK); (try clear K))
  refine PW.go tab_ok [] fun K hK => ?_
  simp only [go_sem, ↓reduceIte, reduceCtorEq, Nat.reduceBEq, Nat.reduceAdd, Nat.reduceMul, Nat.reduceSub, Nat.reduceLT, Nat.reduceLeDiff, Nat.reduceEqDiff]
  refine (pass_pc (ls := testOps) (by decide) (hs.ok r h)).use 0 rfl (Weaks.refl _) (strs_clean1 testOps) ?_
  refine PO.go tab_ok [] ?_
  simp only [go_sem, ↓reduceIte, reduceCtorEq, Nat.reduceBEq, Nat.reduceAdd, Nat.reduceMul, Nat.reduceSub, Nat.reduceLT, Nat.reduceLeDiff, Nat.reduceEqDiff]
  (refine hK _ _ ?_; (try clear hK); (try clear K))
  have hlen : (passM testOps (sum r).2).1 < 7 := passM_lt_len testOps (sum r).2
  refine PW.seq_k fun K0 hK0 => ?_
  refine PW.block ?_
  refine PW.go tab_ok [] fun K hK => ?_
  simp only [go_sem, ↓reduceIte, reduceCtorEq, Nat.reduceBEq, Nat.reduceAdd, Nat.reduceMul, Nat.reduceSub, Nat.reduceLT, Nat.reduceLeDiff, Nat.reduceEqDiff]
  (refine hK _ _ ?_; (try clear hK); (try clear K))
  refine PW.cond_split (b := decide ((passM testOps (sum r).2).1 < 0)) rfl ?_ ?_ <;> intro hb
  · have hk : (passM testOps (sum r).2).1 < 0 := by simpa using hb
    refine PW.go tab_ok [] fun K hK => ?_
    simp only [exPV_cells, exC_len, exC_all, exC_take, exC_drop, agg_exC, go_sem, ↓reduceIte, reduceCtorEq, Nat.reduceBEq, Nat.reduceAdd, Nat.reduceMul, Nat.reduceSub, Nat.reduceLT, Nat.reduceLeDiff, Nat.reduceEqDiff]
    (refine hK _ _ ?_; (try clear hK); (try clear K))
    refine PW.ret (OneM.fin (r' := (testM sum r).2) (.inl rfl) (res_cell (x := exPV (sum r).1) rfl rfl (by simp only [exPV_cells, exC_len, exC_all, exC_take, exC_drop, agg_exC, go_sem, ↓reduceIte, reduceCtorEq, Nat.reduceBEq, Nat.reduceAdd, Nat.reduceMul, Nat.reduceSub, Nat.reduceLT, Nat.reduceLeDiff, Nat.reduceEqDiff])) ?_ ?_ (exPV_clean _))
    · simp [testM, hk]
    · simp [testM, hk, resPV]

  have hk : ¬ (passM testOps (sum r).2).1 < 0 := by simpa using hb
  have hw : IntKind.i64.wrap (3 + (passM testOps (sum r).2).1) = 3 + (passM testOps (sum r).2).1 := wrap_small (by omega) (by omega)
  refine PW.go tab_ok [] fun K hK => ?_
  simp only [hw, go_sem, ↓reduceIte, reduceCtorEq, Nat.reduceBEq, Nat.reduceAdd, Nat.reduceMul, Nat.reduceSub, Nat.reduceLT, Nat.reduceLeDiff, Nat.reduceEqDiff]
  (refine hK _ _ ?_; (try clear hK); (try clear K))
  refine PW.cond_split (b := decide (3 + (passM testOps (sum r).2).1 ≤ 8)) rfl ?_ ?_ <;> intro hb2
  · have hk2 : 3 + (passM testOps (sum r).2).1 ≤ 8 := by simpa using hb2
    refine PW.go tab_ok [] fun K hK => ?_
    simp only [go_sem, ↓reduceIte, reduceCtorEq, Nat.reduceBEq, Nat.reduceAdd, Nat.reduceMul, Nat.reduceSub, Nat.reduceLT, Nat.reduceLeDiff, Nat.reduceEqDiff]
    refine (hs.pc (passM testOps (sum r).2).2 (passM_ok (hs.ok r h)) (by rw [passM_d, hs.dd, hd])).use 0 rfl (Weaks.refl _) rfl ?_
    refine PO.go tab_ok [] ?_
    simp only [exPV_cells, exC_len, exC_all, go_sem, ↓reduceIte, reduceCtorEq, Nat.reduceBEq, Nat.reduceAdd, Nat.reduceMul, Nat.reduceSub, Nat.reduceLT, Nat.reduceLeDiff, Nat.reduceEqDiff]
    (refine hK _ _ ?_; (try clear hK); (try clear K))
    refine PW.go tab_ok [] fun K hK => ?_
    simp only [hw, exPV_cells, exC_len, exC_all, exC_take, exC_drop, agg_exC, go_sem, ↓reduceIte, reduceCtorEq, Nat.reduceBEq, Nat.reduceAdd, Nat.reduceMul, Nat.reduceSub, Nat.reduceLT, Nat.reduceLeDiff, Nat.reduceEqDiff]
    (refine hK _ _ ?_; (try clear hK); (try clear K))
    refine PW.ret (OneM.fin (r' := (testM sum r).2) (x := exPV (testM sum r).1) (.inl rfl) rfl ?_ ?_ (exPV_clean _))
    · simp [testM, hk, hk2]
    · simp only [testM, if_neg hk, if_pos hk2]
      exact .refl _
  have hk2 : ¬ 3 + (passM testOps (sum r).2).1 ≤ 8 := by simpa using hb2
  refine PW.skip (hK0 _ _ ?_)
  clear hK0 K0
  have hok3 : (hasM sNOT (passM testOps (sum r).2).2).2.ok := hasM_ok (passM_ok (hs.ok r h))
  refine PW.go tab_ok [] fun K hK => ?_
  simp only [go_sem, ↓reduceIte, reduceCtorEq, Nat.reduceBEq, Nat.reduceAdd, Nat.reduceMul, Nat.reduceSub, Nat.reduceLT, Nat.reduceLeDiff, Nat.reduceEqDiff]
  refine (has_pc (s := sNOT) (passM_ok (hs.ok r h))).use 0 rfl (Weaks.refl _) rfl ?_
  refine PO.go tab_ok [] ?_
  simp only [go_sem, ↓reduceIte, reduceCtorEq, Nat.reduceBEq, Nat.reduceAdd, Nat.reduceMul, Nat.reduceSub, Nat.reduceLT, Nat.reduceLeDiff, Nat.reduceEqDiff]
  (refine hK _ _ ?_; (try clear hK); (try clear K))
  refine PW.go tab_ok [] fun K hK => ?_
  simp only [go_sem, ↓reduceIte, reduceCtorEq, Nat.reduceBEq, Nat.reduceAdd, Nat.reduceMul, Nat.reduceSub, Nat.reduceLT, Nat.reduceLeDiff, Nat.reduceEqDiff]
  refine (must_pc (ls := [sNULL]) (by decide) hok3).use 0 rfl (Weaks.refl _) (strs_clean1 [sNULL]) ?_
  refine PO.go tab_ok [] ?_
  simp only [go_sem, ↓reduceIte, reduceCtorEq, Nat.reduceBEq, Nat.reduceAdd, Nat.reduceMul, Nat.reduceSub, Nat.reduceLT, Nat.reduceLeDiff, Nat.reduceEqDiff]
  (refine hK _ _ ?_; (try clear hK); (try clear K))
  refine PW.seq_k fun K0 hK0 => ?_
  refine PW.go tab_ok [] fun K hK => ?_
  simp only [exPV_cells, exC_len, exC_all, exC_take, exC_drop, agg_exC, go_sem, ↓reduceIte, reduceCtorEq, Nat.reduceBEq, Nat.reduceAdd, Nat.reduceMul, Nat.reduceSub, Nat.reduceLT, Nat.reduceLeDiff, Nat.reduceEqDiff]
  refine (of_pc 6 (sum r).1).use (Weaks.refl _) (by simp [PVs.clean, PV.clean, exPV_clean]) (exPV_clean _) ?_
  refine PO.go tab_ok [] ?_
  simp only [exPV_cells, exC_len, exC_all, exC_take, exC_drop, agg_exC, go_sem, ↓reduceIte, reduceCtorEq, Nat.reduceBEq, Nat.reduceAdd, Nat.reduceMul, Nat.reduceSub, Nat.reduceLT, Nat.reduceLeDiff, Nat.reduceEqDiff]
  (refine hK _ _ ?_; (try clear hK); (try clear K))
  refine PW.go tab_ok [] fun K hK => ?_
  simp only [go_sem, ↓reduceIte, reduceCtorEq, Nat.reduceBEq, Nat.reduceAdd, Nat.reduceMul, Nat.reduceSub, Nat.reduceLT, Nat.reduceLeDiff, Nat.reduceEqDiff]
  (refine hK _ _ ?_; (try clear hK); (try clear K))
  refine PW.cond_split (b := (hasM sNOT (passM testOps (sum r).2).2).1) rfl ?_ ?_ <;> intro hb3
  · refine PW.goL tab_ok [] fun K hK => ?_
    simp only [exPV_cells, exC_len, exC_all, exC_take, exC_drop, agg_exC, go_sem, ↓reduceIte, reduceCtorEq, Nat.reduceBEq, Nat.reduceAdd, Nat.reduceMul, Nat.reduceSub, Nat.reduceLT, Nat.reduceLeDiff, Nat.reduceEqDiff]
    refine (of_pc 4 (ofM 6 (sum r).1)).use (Weaks.refl _) (by simp [PVs.clean, PV.clean, exPV_clean]) (exPV_clean _) ?_
    refine PO.go tab_ok [] ?_
    simp only [exPV_cells, exC_len, exC_all, exC_take, exC_drop, agg_exC, go_sem, ↓reduceIte, reduceCtorEq, Nat.reduceBEq, Nat.reduceAdd, Nat.reduceMul, Nat.reduceSub, Nat.reduceLT, Nat.reduceLeDiff, Nat.reduceEqDiff]
    (refine hK _ _ ?_; (try clear hK); (try clear K))
    refine hK0 _ _ ?_
    refine PW.go tab_ok [] fun K hK => ?_
    simp only [exPV_cells, exC_len, exC_all, exC_take, exC_drop, agg_exC, go_sem, ↓reduceIte, reduceCtorEq, Nat.reduceBEq, Nat.reduceAdd, Nat.reduceMul, Nat.reduceSub, Nat.reduceLT, Nat.reduceLeDiff, Nat.reduceEqDiff]
    (refine hK _ _ ?_; (try clear hK); (try clear K))
    refine PW.ret (OneM.fin (r' := (testM sum r).2) (.inl rfl) (res_cell (x := exPV (ofM 4 (ofM 6 (sum r).1))) rfl rfl (by simp only [exPV_cells, exC_len, exC_all, exC_take, exC_drop, agg_exC, go_sem, ↓reduceIte, reduceCtorEq, Nat.reduceBEq, Nat.reduceAdd, Nat.reduceMul, Nat.reduceSub, Nat.reduceLT, Nat.reduceLeDiff, Nat.reduceEqDiff])) ?_ ?_ (exPV_clean _))
    · simp [testM, hk, hk2, hb3]
    · simp [testM, hk, hk2, hb3, resPV]

  · refine PW.skip (hK0 _ _ ?_)
    refine PW.go tab_ok [] fun K hK => ?_
    simp only [exPV_cells, exC_len, exC_all, exC_take, exC_drop, agg_exC, go_sem, ↓reduceIte, reduceCtorEq, Nat.reduceBEq, Nat.reduceAdd, Nat.reduceMul, Nat.reduceSub, Nat.reduceLT, Nat.reduceLeDiff, Nat.reduceEqDiff]
    (refine hK _ _ ?_; (try clear hK); (try clear K))
    refine PW.ret (OneM.fin (r' := (testM sum r).2) (.inl rfl) (res_cell (x := exPV (ofM 6 (sum r).1)) rfl rfl (by simp only [exPV_cells, exC_len, exC_all, exC_take, exC_drop, agg_exC, go_sem, ↓reduceIte, reduceCtorEq, Nat.reduceBEq, Nat.reduceAdd, Nat.reduceMul, Nat.reduceSub, Nat.reduceLT, Nat.reduceLeDiff, Nat.reduceEqDiff])) ?_ ?_ (exPV_clean _))
    · simp [testM, hk, hk2, hb3]
    · simp [testM, hk, hk2, hb3, resPV]

end Go.Proofs.YtpepmfhemjeocaaGreatDoor
end
