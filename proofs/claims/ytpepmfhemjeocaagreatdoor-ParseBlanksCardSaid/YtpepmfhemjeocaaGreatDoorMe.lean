/- Texts of this claim's author, joined: Kd, Le, Ta, Lh, Td, Ub, Kf, Uc, Ke, Tb, Te. -/
import Derived.Test.YtpepmfhemjeocaaGreatDoorMd
import Derived.Test.YtpepmfhemjeocaaGreatDoorMc
import Derived.Lib.Join
import Derived.Lib.JoinLaws
import Derived.Lib.ItoaLen
section
/- Plain: what is read is right. -/
set_option linter.unusedVariables false
set_option linter.unusedSimpArgs false
namespace Go.Proofs.YtpepmfhemjeocaaGreatDoor

/-- A value that may be written. -/
inductive WrV : Vl → Prop
  | null : WrV ⟨0, 0, []⟩
  | num (n : Int) (h0 : -9223372036854775808 < n) (h1 : n ≤ 9223372036854775807) : WrV ⟨1, n, []⟩
  | text (t : Str) (h : t.length ≤ 40) : WrV ⟨2, 0, t⟩
/-- A tree that is right. -/
inductive RightE : Ex → Prop
  | val (v : Vl) (h : WrV v) : RightE (.mk 1 0 [] [] v [])
  | col (t n : Str) (ht : t = [] ∨ nameB t = true) (hn : nameB n = true) : RightE (.mk 2 0 t n v0 [])
  | op (o : Int) (a b : Ex) (h0 : 1 ≤ o) (h1 : o ≤ 13) (ha : RightE a) (hb : RightE b) : RightE (.mk 3 o [] [] v0 [a, b])
  | one (k : Int) (a : Ex) (h0 : 4 ≤ k) (h1 : k ≤ 6) (ha : RightE a) : RightE (.mk k 0 [] [] v0 [a])
inductive RightI : Itm → Prop
  | all : RightI ⟨1, []⟩
  | rows : RightI ⟨3, []⟩
  | expr (e : Ex) (h : RightE e) : RightI ⟨2, [e]⟩
  | of (k : Int) (e : Ex) (h0 : 4 ≤ k) (h1 : k ≤ 7) (h : RightE e) : RightI ⟨k, [e]⟩
/-- At most one, which is right. -/
inductive OneE : List Ex → Prop
  | none : OneE []
  | some (e : Ex) (h : RightE e) : OneE [e]
inductive ColE : List Ex → Prop
  | none : ColE []
  | some (t n : Str) (ht : t = [] ∨ nameB t = true) (hn : nameB n = true) : ColE [.mk 2 0 t n v0 []]
structure RightC (c : Col) : Prop where
  name : nameB c.name = true
  kind : c.kind = 1 ∨ c.kind = 2
structure RightSet (s : SetX) : Prop where
  name : nameB s.name = true
  e : RightE s.e
def RightRow (r : List Vl) : Prop := 1 ≤ r.length ∧ r.length ≤ 8 ∧ ∀ v ∈ r, WrV v
inductive RightS : Stm → Prop
  | create (t p : Str) (cs : List Col) (ht : nameB t = true) (hp : nameB p = true) (h0 : 1 ≤ cs.length) (h1 : cs.length ≤ 8) (hc : ∀ c ∈ cs, RightC c) : RightS { stm0 1 with table := t, cols := cs, prim := p }
  | drop (t : Str) (ht : nameB t = true) : RightS { stm0 2 with table := t }
  | insert (t : Str) (rs : List (List Vl)) (ht : nameB t = true) (h0 : 1 ≤ rs.length) (h1 : rs.length ≤ 16) (hr : ∀ r ∈ rs, RightRow r) : RightS { stm0 3 with table := t, rows := rs }
  | update (t : Str) (ss : List SetX) (w : List Ex) (ht : nameB t = true) (h0 : 1 ≤ ss.length) (h1 : ss.length ≤ 8) (hs : ∀ s ∈ ss, RightSet s) (hw : OneE w) : RightS { stm0 4 with table := t, sets := ss, wh := w }
  | remove (t : Str) (w : List Ex) (ht : nameB t = true) (hw : OneE w) : RightS { stm0 5 with table := t, wh := w }
  | choose (t j : Str) (is : List Itm) (on w g o : List Ex) (d : Bool) (l : Int) (ht : nameB t = true) (h0 : 1 ≤ is.length) (h1 : is.length ≤ 8) (hi : ∀ i ∈ is, RightI i)
      (hj : (j = [] ∧ on = []) ∨ (nameB j = true ∧ ∃ e, on = [e] ∧ RightE e)) (hw : OneE w) (hg : ColE g) (ho : ColE o) (hd : d = true → o ≠ []) (hl0 : -1 ≤ l) (hl1 : l ≤ 9223372036854775807) :
      RightS (Stm.mk 6 t [] [] [] [] is j on w g o d l)

def Wt (t : Tok) : Prop := t.kind = 6 ∨ WfT t
def R.wf (r : R) : Prop := ∀ t ∈ r.ts, Wt t
theorem R.wf.tail {r : R} (h : r.wf) : r.tail.wf := fun t ht => h t (List.mem_of_mem_tail ht)
theorem R.wf.hd {r : R} (h : r.wf) : hd r = tok0 ∨ Wt (hd r) := by
  unfold Proofs.YtpepmfhemjeocaaGreatDoor.hd
  cases hts : r.ts with
  | nil => exact .inl rfl
  | cons t l => exact .inr (h t (by simp [hts]))
/-- What f reads at depth d is P, where no fault is. -/
def Rt {α : Type} (d : Int) (P : α → Prop) (f : R → α × R) : Prop :=
  ∀ r : R, r.wf → r.d = d → (f r).2.wf ∧ (f r).2.d = d ∧ (r.c ≠ 0 → (f r).2.c ≠ 0) ∧ ((f r).2.c = 0 → P (f r).1)
section
variable {d : Int}
theorem Rt.ret {α : Type} {P : α → Prop} {a : α} (h : P a) : Rt d P (retM a) := fun r h1 h2 => ⟨h1, h2, fun h => h, fun _ => h⟩
theorem Rt.mono {α : Type} {P Q : α → Prop} {f : R → α × R} (h : Rt d P f) (hpq : ∀ a, P a → Q a) : Rt d Q f := fun r h1 h2 =>
  let ⟨a, b, c, e⟩ := h r h1 h2
  ⟨a, b, c, fun hc => hpq _ (e hc)⟩
theorem Rt.bnd {α β : Type} {P : α → Prop} {Q : β → Prop} {f : R → α × R} {g : α → R → β × R} (h : Rt d P f) (h' : ∀ a, Rt d (fun b => P a → Q b) (g a)) : Rt d Q (bndM f g) := fun r h1 h2 => by
  obtain ⟨a1, a2, a3, a4⟩ := h r h1 h2
  obtain ⟨b1, b2, b3, b4⟩ := h' (f r).1 _ a1 a2
  refine ⟨b1, b2, fun hc => b3 (a3 hc), fun hc => b4 hc (a4 ?_)⟩
  by_cases h0 : (f r).2.c = 0
  · exact h0
  · exact absurd hc (b3 h0)
theorem Rt.ite {α : Type} {P : α → Prop} {c : Prop} [Decidable c] {f g : R → α × R} (h : c → Rt d P f) (h' : ¬ c → Rt d P g) : Rt d P (if c then f else g) := by
  split
  · rename_i hc; exact h hc
  · rename_i hc; exact h' hc
theorem Rt.of_eq {α : Type} {P : α → Prop} {f f' : R → α × R} (h : Rt d P f) (e : ∀ r, f' r = f r) : Rt d P f' := by
  rw [funext e]; exact h
theorem failM_wf {r : R} (h : r.wf) (e : Int) : (failM e r).wf := by unfold failM; split <;> exact h
theorem Rt.fail {P : Unit → Prop} {e : Int} (he : e ≠ 0) : Rt d P (fail' e) := fun r h1 h2 =>
  ⟨failM_wf h1 e, (failM_d e r).trans h2, fun _ => failM_c e r he, fun hc => absurd hc (failM_c e r he)⟩
theorem Rt.pass (ls : List Str) : Rt d (fun k : Int => -1 ≤ k ∧ k < (ls.length : Int)) (passM ls) := fun r h1 h2 => by
  refine ⟨?_, (passM_d ls r).trans h2, fun hc => by rw [passM_bad hc]; exact hc, fun _ => ⟨?_, passM_lt_len ls r⟩⟩
  · simp only [passM]; split
    · exact h1.tail
    · exact h1
  · simp only [passM, isM]; split
    · exact (idx_ge ls _).1
    · exact Int.le_refl _
theorem Rt.has (s : Str) : Rt d (fun _ => True) (hasM s) := fun r h1 h2 =>
  let ⟨a, b, c, _⟩ := Rt.pass [s] r h1 h2
  ⟨a, b, c, fun _ => trivial⟩
theorem Rt.must : ∀ (ls : List Str), Rt d (fun _ => True) (must' ls)
  | [] => fun r h1 h2 => ⟨h1, h2, fun h => h, fun _ => trivial⟩
  | l :: ls => fun r h1 h2 => by
    obtain ⟨a1, a2, a3, _⟩ := Rt.has (d := d) l r h1 h2
    show (mustM (l :: ls) r).wf ∧ (mustM (l :: ls) r).d = d ∧ (r.c ≠ 0 → (mustM (l :: ls) r).c ≠ 0) ∧ ((mustM (l :: ls) r).c = 0 → True)
    cases hb : (hasM l r).1 with
    | true =>
      simp only [mustM, hb, if_true]
      obtain ⟨b1, b2, b3, b4⟩ := Rt.must ls _ a1 a2
      exact ⟨b1, b2, fun hc => b3 (a3 hc), fun _ => trivial⟩
    | false =>
      simp only [mustM, hb, Bool.false_eq_true, if_false]
      obtain ⟨b1, b2, b3, b4⟩ := Rt.must ls _ (failM_wf a1 4) ((failM_d 4 _).trans a2)
      exact ⟨b1, b2, fun _ => b3 (failM_c 4 _ (by decide)), fun _ => trivial⟩
theorem Rt.take {k : Int} (hk : k ≠ 0) {P : Str × Int → Prop} (h : ∀ t : Tok, Wt t → t.kind = k → P (t.text, t.num)) : Rt d P (takeN k) := fun r h1 h2 => by
  by_cases hh : r.c = 0 ∧ (hd r).kind = k
  · have e1 : takeM k r = (hd r, r.tail) := by simp [takeM, hh]
    simp only [takeN, e1]
    refine ⟨h1.tail, h2, fun hc => absurd hh.1 hc, fun _ => ?_⟩
    rcases h1.hd with h0 | h0
    · have hk := hh.2
      rw [h0] at hk
      exact absurd hk.symm ‹k ≠ 0›
    · exact h _ h0 hh.2
  · have e1 : takeM k r = (tok0, failM 4 r) := by simp only [takeM, if_neg hh]
    simp only [takeN, e1]
    exact ⟨failM_wf h1 4, (failM_d 4 r).trans h2, fun _ => failM_c 4 r (by decide), fun hc => absurd hc (failM_c 4 r (by decide))⟩
theorem wt_name {t : Tok} (h : Wt t) (hk : t.kind = 1) : nameB t.text = true := by
  rcases h with h | h
  · rw [hk] at h; exact absurd h (by decide)
  · cases h with
    | name s a h => exact h
    | _ => simp at hk
theorem wt_num {t : Tok} (h : Wt t) (hk : t.kind = 3) : 0 ≤ t.num ∧ t.num ≤ 9223372036854775807 := by
  rcases h with h | h
  · rw [hk] at h; exact absurd h (by decide)
  · cases h with
    | num n a h0 h => exact ⟨h0, h⟩
    | _ => simp at hk
theorem wt_text {t : Tok} (h : Wt t) (hk : t.kind = 4) : t.text.length ≤ 40 := by
  rcases h with h | h
  · rw [hk] at h; exact absurd h (by decide)
  · cases h with
    | text s a h => exact h
    | _ => simp at hk
theorem Rt.name : Rt d (fun s => nameB s = true) nameM :=
  ((Rt.take (k := 1) (by decide) (P := fun x => nameB x.1 = true) fun t h hk => wt_name h hk).bnd fun a => Rt.ret (P := fun b => nameB a.1 = true → nameB b = true) (a := a.1) fun h => h).of_eq fun _ => rfl
theorem Rt.lit : Rt d (fun v => v.2 = true → WrV v.1) litM := fun r h1 h2 => by
  have hw := Rt.has (d := d) sNULL r h1 h2
  unfold litM
  by_cases h0 : r.c ≠ 0
  · rw [if_pos h0]
    exact ⟨h1, h2, fun h => h, fun _ h => by cases h⟩
  rw [if_neg h0]
  by_cases h3 : (hd r).kind = 3
  · rw [if_pos h3]
    refine ⟨h1.tail, h2, fun h => absurd h h0, fun _ _ => ?_⟩
    rcases h1.hd with hh | hh
    · rw [hh] at h3; exact absurd h3 (by decide)
    · obtain ⟨a, b⟩ := wt_num hh h3
      exact .num _ (by omega) b
  rw [if_neg h3]
  by_cases h4 : (hd r).kind = 4
  · rw [if_pos h4]
    refine ⟨h1.tail, h2, fun h => absurd h h0, fun _ _ => ?_⟩
    rcases h1.hd with hh | hh
    · rw [hh] at h4; exact absurd h4 (by decide)
    · exact .text _ (wt_text hh h4)
  rw [if_neg h4]
  by_cases h5 : isM [[45]] r < 0 ∨ (nxt r).kind ≠ 3
  · rw [if_pos h5]
    exact ⟨hw.1, hw.2.1, hw.2.2.1, fun _ _ => .null⟩
  rw [if_neg h5]
  refine ⟨h1.tail.tail, h2, fun h => absurd h h0, fun _ _ => ?_⟩
  have hn : (nxt r).kind = 3 := by
    by_cases h : (nxt r).kind = 3
    · exact h
    · exact absurd (.inr h) h5
  have hwt : Wt (nxt r) := by
    have e : nxt r = hd r.tail ∨ nxt r = tok0 := by
      unfold nxt Proofs.YtpepmfhemjeocaaGreatDoor.hd R.tail
      cases r.ts with
      | nil => exact .inr rfl
      | cons t l =>
        cases l with
        | nil => exact .inr rfl
        | cons u l => exact .inl rfl
    rcases e with e | e
    · rcases h1.tail.hd with h | h
      · rw [e, h] at hn; exact absurd hn (by decide)
      · rw [e]; exact h
    · rw [e] at hn; exact absurd hn (by decide)
  obtain ⟨a, b⟩ := wt_num hwt hn
  have hwr : IntKind.i64.wrap (0 - (nxt r).num) = 0 - (nxt r).num := by
    simp only [IntKind.wrap, IntKind.bits, IntKind.signed]
    simp
    omega
  rw [hwr]
  exact .num _ (by omega) (by omega)
theorem rowL_rt {m : R → Ex × R} (h : Rt d RightE m) {first : Int} {ops : List Str} (h0 : 1 ≤ first) (h1 : first + ops.length ≤ 14) : ∀ (n : Nat) (e : Ex) (r : R), r.wf → r.d = d → (r.c = 0 → RightE e) →
    (rowL m first ops n e r).2.wf ∧ (rowL m first ops n e r).2.d = d ∧ (r.c ≠ 0 → (rowL m first ops n e r).2.c ≠ 0) ∧ ((rowL m first ops n e r).2.c = 0 → RightE (rowL m first ops n e r).1)
  | 0, e, r, hw, hd, he => ⟨hw, hd, fun h => h, he⟩
  | n + 1, e, r, hw, hd, he => by
    obtain ⟨a1, a2, a3, a4⟩ := Rt.pass (d := d) ops r hw hd
    unfold rowL
    by_cases hk : (passM ops r).1 < 0
    · rw [if_pos hk]
      refine ⟨a1, a2, a3, fun hc => he ?_⟩
      by_cases h0 : r.c = 0
      · exact h0
      · exact absurd hc (a3 h0)
    · rw [if_neg hk]
      obtain ⟨b1, b2, b3, b4⟩ := h _ a1 a2
      have key : ∀ {x : R} {y : R}, (x.c ≠ 0 → y.c ≠ 0) → y.c = 0 → x.c = 0 := fun {x y} hh hc => by
        by_cases h0 : x.c = 0
        · exact h0
        · exact absurd hc (hh h0)
      obtain ⟨c1, c2, c3, c4⟩ := rowL_rt h h0 h1 n (opM (first + (passM ops r).1) e (m (passM ops r).2).1) _ b1 b2 fun hc => by
        have hp := key b3 hc
        obtain ⟨k0, k1⟩ := a4 hp
        exact .op _ _ _ (by omega) (by omega) (he (key a3 hp)) (b4 hc)
      exact ⟨c1, c2, fun hc => c3 (b3 (a3 hc)), c4⟩
theorem Rt.row {m : R → Ex × R} (h : Rt d RightE m) {first : Int} {ops : List Str} (h0 : 1 ≤ first) (h1 : first + ops.length ≤ 14) : Rt d RightE (rowM m first ops) := fun r hw hd => by
  obtain ⟨a1, a2, a3, a4⟩ := h r hw hd
  obtain ⟨b1, b2, b3, b4⟩ := rowL_rt h h0 h1 (m r).2.ts.length (m r).1 (m r).2 a1 a2 a4
  exact ⟨b1, b2, fun hc => b3 (a3 hc), b4⟩
theorem Rt.within {m : R → Ex × R} (h : d + 1 ≤ 10 → Rt (d + 1) RightE m) : Rt d RightE (withM m) := fun r hw hd => by
  by_cases hr : r.d + 1 > 10
  · have e : deepM r = failM 10 (r.deep 1) := by unfold deepM; rw [if_pos hr]
    have hc := failM_c 10 (r.deep 1) (by decide)
    unfold withM
    rw [e, if_neg hc]
    refine ⟨failM_wf (r := r.deep 1) hw 10, ?_, fun _ => hc, fun h => absurd h hc⟩
    show (failM 10 (r.deep 1)).d + -1 = d
    rw [failM_d]
    show r.d + 1 + -1 = d
    omega
  · have e : deepM r = r.deep 1 := by unfold deepM; rw [if_neg hr]
    unfold withM
    rw [e]
    obtain ⟨a1, a2, a3, a4⟩ := h (by omega) (r.deep 1) hw (by show r.d + 1 = d + 1; omega)
    by_cases hc : (r.deep 1).c = 0
    · rw [if_pos hc]
      exact ⟨a1, by show _ + -1 = d; omega, fun h => absurd hc h, a4⟩
    · rw [if_neg hc]
      exact ⟨hw, by show r.d + 1 + -1 = d; omega, fun h => hc, fun h => absurd h hc⟩
theorem Rt.col : Rt d (fun e => ∃ t n : Str, e = .mk 2 0 t n v0 [] ∧ (t = [] ∨ nameB t = true) ∧ nameB n = true) colM :=
  (Rt.name.bnd fun a => (Rt.has [46]).bnd fun b => Rt.ite (c := b = true) (fun _ => Rt.name.bnd fun c => Rt.ret (a := Ex.mk 2 0 a c v0 []) fun hc _ ha => ⟨a, c, rfl, .inr ha, hc⟩)
    (fun _ => Rt.ret (a := Ex.mk 2 0 [] a v0 []) fun _ ha => ⟨[], a, rfl, .inl rfl, ha⟩)).of_eq
    fun r => by simp only [colM, bndM, retM, must', ite_app]
theorem Rt.test {m : R → Ex × R} (h : Rt d RightE m) : Rt d RightE (testM m) :=
  (h.bnd fun e => (Rt.pass testOps).bnd fun k => Rt.ite (c := k < 0) (fun _ => Rt.ret (a := e) fun _ he => he) (fun hk => Rt.ite (c := 3 + k ≤ 8) (fun h8 => h.bnd fun f => Rt.ret (a := opM (3 + k) e f) fun hf _ he => .op _ _ _ (by omega) (by omega) he hf)
    (fun _ => (Rt.has sNOT).bnd fun b => (Rt.must [sNULL]).bnd fun _ => Rt.ret (a := if b then ofM 4 (ofM 6 e) else ofM 6 e) fun _ _ _ he => by
      have h6 : RightE (ofM 6 e) := .one 6 e (by decide) (by decide) he
      cases b
      · exact h6
      · exact .one 4 _ (by decide) (by decide) h6))).of_eq
    fun r => by simp only [testM, bndM, retM, must', ite_app]
theorem Rt.not {m t : R → Ex × R} (h : d + 1 ≤ 10 → Rt (d + 1) RightE m) (ht : Rt d RightE t) : Rt d RightE (notM m t) :=
  ((Rt.has sNOT).bnd fun b => Rt.ite (c := b = true) (fun _ => (Rt.within h).bnd fun e => Rt.ret (a := ofM 4 e) fun he _ => .one 4 e (by decide) (by decide) he) fun _ => ht.mono fun _ h _ => h).of_eq
    fun r => by simp only [notM, bndM, retM, must', ite_app]
theorem Rt.fac {m t : R → Ex × R} (h : d + 1 ≤ 10 → Rt (d + 1) RightE m) (ht : d + 1 ≤ 10 → Rt (d + 1) RightE t) : Rt d RightE (facM m t) :=
  (Rt.lit.bnd fun v => Rt.ite (c := v.2 = true) (fun hv => Rt.ret (a := valM v.1) fun h => .val _ (h hv)) (fun _ => (Rt.pass facOps).bnd fun k =>
    Rt.ite (c := k = 0) (fun _ => (Rt.within h).bnd fun e => Rt.ret (a := ofM 5 e) fun he _ _ => .one 5 e (by decide) (by decide) he) (fun _ => Rt.ite (c := k = 1) (fun _ => (Rt.within ht).bnd fun e => (Rt.must [[41]]).bnd fun _ => Rt.ret (a := e) fun _ he _ _ => he)
      (fun _ => Rt.col.mono fun e ⟨t, n, h1, h2, h3⟩ _ _ => h1 ▸ .col t n h2 h3)))).of_eq
    fun r => by simp only [facM, bndM, retM, must', ite_app]
theorem mkLv_rt {l : Lv} (h : d + 1 ≤ 10 → Rt (d + 1) RightE l.fac ∧ Rt (d + 1) RightE l.nt ∧ Rt (d + 1) RightE l.ex) : Rt d RightE (mkLv l).fac ∧ Rt d RightE (mkLv l).nt ∧ Rt d RightE (mkLv l).ex := by
  have gf : Rt d RightE (facM l.fac l.ex) := Rt.fac (fun a => (h a).1) (fun a => (h a).2.2)
  have gn := Rt.not (fun a => (h a).2.1) (Rt.test ((gf.row (first := 11) (ops := termOps) (by decide) (by decide)).row (first := 9) (ops := sumOps) (by decide) (by decide)))
  exact ⟨gf, gn, (gn.row (first := 2) (ops := andOps) (by decide) (by decide)).row (first := 1) (ops := exprOps) (by decide) (by decide)⟩
theorem lv_rt : ∀ (n : Nat), n ≤ 10 → Rt (10 - (n : Int)) RightE (lv n).fac ∧ Rt (10 - (n : Int)) RightE (lv n).nt ∧ Rt (10 - (n : Int)) RightE (lv n).ex
  | 0, _ => mkLv_rt fun h => by omega
  | n + 1, hn => mkLv_rt fun _ => by
    have := lv_rt n (by omega)
    rw [show (10 : Int) - ((n + 1 : Nat) : Int) + 1 = 10 - (n : Int) from by omega]
    exact this
theorem Rt.expr : Rt 0 RightE exprM := (lv_rt 10 (by omega)).2.2
/-! ### Statements -/
theorem Rt.coA : Rt d (fun b : Str × Int => nameB b.1 = true ∧ (b.2 = 1 ∨ b.2 = 2)) (bndM nameM fun n => bndM (passM coOps) fun k => if k = -1 then bndM (fail' 4) fun _ => retM (n, (1 : Int)) else if k = 1 then retM (n, 2) else retM (n, 1)) :=
  Rt.name.bnd fun n => (Rt.pass coOps).bnd fun k => Rt.ite (c := k = -1) (fun _ => (Rt.fail (P := fun _ => False) (by decide)).bnd fun _ => Rt.ret fun h => h.elim)
    fun _ => Rt.ite (c := k = 1) (fun _ => Rt.ret fun _ h => ⟨h, .inr rfl⟩) (fun _ => Rt.ret fun _ h => ⟨h, .inl rfl⟩)
theorem Rt.co : Rt d RightC coM :=
  (Rt.coA.bnd fun p => (Rt.has sNOT).bnd fun nn => (Rt.ite (P := fun _ => True) (c := nn = true) (fun _ => Rt.must [sNULL]) (fun _ => Rt.ret trivial)).bnd fun _ => (Rt.has sUNIQUE).bnd fun u => Rt.ret (a := Col.mk p.1 p.2 nn u) fun _ _ _ h => ⟨h.1, h.2⟩).of_eq coM_eq
theorem Rt.maybe (w : Str) : Rt 0 (fun o => OneE o.toList) (maybeM w) :=
  ((Rt.has w).bnd fun b => Rt.ite (c := b = true) (fun _ => Rt.expr.bnd fun e => Rt.ret (a := some e) fun he _ => .some e he) (fun _ => Rt.ret (a := none) fun _ => .none)).of_eq
    fun r => by simp only [maybeM, bndM, retM, ite_app]
theorem Rt.by (w : Str) : Rt d (fun o => ColE o.toList) (byM w) :=
  ((Rt.has w).bnd fun b => Rt.ite (c := b = true) (fun _ => (Rt.must [[66, 89]]).bnd fun _ => Rt.col.bnd fun e => Rt.ret (a := some e) fun ⟨t, n, h1, h2, h3⟩ _ _ => h1 ▸ .some t n h2 h3) (fun _ => Rt.ret (a := none) fun _ => .none)).of_eq
    fun r => by simp only [byM, bndM, retM, must', ite_app]
theorem Rt.itArg (k : Int) : Rt 0 (fun i => 4 ≤ k → k ≤ 7 → RightI i) (itArg k) :=
  (Rt.expr.bnd fun e => (Rt.must [[41]]).bnd fun _ => Rt.ret (a := Itm.mk k [e]) fun _ he h0 h1 => .of k e h0 h1 he).of_eq fun _ => rfl
theorem Rt.item : Rt 0 RightI itemM :=
  ((Rt.pass itOps).bnd fun k => Rt.ite (c := k < 0) (fun _ => Rt.expr.bnd fun e => Rt.ret (a := Itm.mk 2 [e]) fun he _ => .expr e he) (fun h1 => Rt.ite (c := k = 4) (fun _ => Rt.ret (a := Itm.mk 1 []) fun _ => .all)
    (fun h2 => (Rt.must [[40]]).bnd fun _ => Rt.ite (c := k > 0) (fun _ => (Rt.itArg (4 + k)).mono fun _ h _ hk => h (by omega) (by have : k < 5 := hk.2; omega))
      (fun _ => (Rt.has [42]).bnd fun b => Rt.ite (c := b = true) (fun _ => (Rt.must [[41]]).bnd fun _ => Rt.ret (a := Itm.mk 3 []) fun _ _ _ _ => .rows) (fun _ => (Rt.itArg (4 + k)).mono fun _ h _ _ hk => h (by omega) (by have : k < 5 := hk.2; omega)))))).of_eq
    fun r => by simp only [itemM, bndM, retM, must', ite_app]
theorem Rt.many {σ : Type} {one : R × σ → R × σ} {I : Nat → σ → Prop} (h : ∀ k s, Rt d (fun s' => I k s → I (k + 1) s') (oneN one s)) : ∀ (m k : Nat) (s : σ), Rt d (fun s' => I k s → ∃ j, k + 1 ≤ j ∧ j ≤ k + m ∧ I j s') (manyN one m s)
  | 0, k, s => ((Rt.fail (P := fun _ => False) (e := 2) (by decide)).bnd fun _ => (h k s).bnd fun s1 => (Rt.has [44]).bnd fun _ => Rt.ret (a := s1) fun _ _ h => h.elim).of_eq (fun _ => rfl)
  | m + 1, k, s => ((h k s).bnd fun s1 => (Rt.has [44]).bnd fun b => Rt.ite (c := b = true) (fun _ => (Rt.many h m (k + 1) s1).mono fun s' hj _ h1 h0 => by
        obtain ⟨j, a, b, c⟩ := hj (h1 h0)
        exact ⟨j, by omega, by omega, c⟩) (fun _ => Rt.ret (a := s1) fun _ h1 h0 => ⟨k + 1, Nat.le_refl _, by omega, h1 h0⟩)).of_eq
      (fun r => by rw [manyN_succ]; simp only [bndM, retM, ite_app])
/-- So many, each P. -/
def Row {α : Type} (P : α → Prop) (k : Nat) (s : List α) : Prop := s.length = k ∧ ∀ x ∈ s, P x
theorem Row.add {α : Type} {P : α → Prop} {k : Nat} {s : List α} (h : Row P k s) {x : α} (hx : P x) : Row P (k + 1) (s ++ [x]) := by
  refine ⟨by simp [h.1], fun y hy => ?_⟩
  rcases List.mem_append.1 hy with hy | hy
  · exact h.2 y hy
  · simp at hy; subst hy; exact hx
theorem Row.nil {α : Type} {P : α → Prop} : Row P 0 ([] : List α) := ⟨rfl, by simp⟩
theorem Rt.tupOne (k : Nat) (s : List Vl) : Rt d (fun s' => Row WrV k s → Row WrV (k + 1) s') (oneN tupOne s) :=
  (Rt.lit.bnd fun v => (Rt.ite (P := fun _ => v.2 = true) (c := v.2 = true) (fun h => Rt.ret (a := ()) h) (fun _ => Rt.fail (e := 4) (by decide))).bnd fun _ => Rt.ret (a := s ++ [v.1]) fun h hv hr => hr.add (hv h)).of_eq
    (fun r => by simp only [oneN, Proofs.YtpepmfhemjeocaaGreatDoor.tupOne, bndM, retM, fail', ite_app]; split <;> rfl)
theorem Rt.tuple : Rt d RightRow tupleM :=
  ((Rt.must [[40]]).bnd fun _ => (Rt.many Rt.tupOne 8 0 []).bnd fun s => (Rt.must [[41]]).bnd fun _ => Rt.ret (a := s) fun _ h _ => by
    obtain ⟨j, h1, h2, h3⟩ := h Row.nil
    exact ⟨by rw [h3.1]; omega, by rw [h3.1]; omega, h3.2⟩).of_eq (fun _ => rfl)
theorem Rt.insert : Rt d RightS insertM :=
  ((Rt.must [[73, 78, 84, 79]]).bnd fun _ => Rt.name.bnd fun t => (Rt.must [[86, 65, 76, 85, 69, 83]]).bnd fun _ => (Rt.many (one := insOne) (I := Row RightRow) (fun k s => (Rt.tuple.bnd fun l => Rt.ret (a := s ++ [l]) fun hl hr => hr.add hl).of_eq (fun _ => rfl)) 16 0 []).bnd fun rows =>
    Rt.ret (a := { stm0 3 with table := t, rows := rows }) fun h _ ht _ => by
      obtain ⟨j, h1, h2, h3⟩ := h Row.nil
      exact .insert t rows ht (by rw [h3.1]; omega) (by rw [h3.1]; omega) h3.2).of_eq (fun _ => rfl)
theorem Rt.update : Rt 0 RightS updateM :=
  (Rt.name.bnd fun t => (Rt.must [[83, 69, 84]]).bnd fun _ => (Rt.many (one := updOne) (I := Row RightSet) (fun k s => (Rt.name.bnd fun n => (Rt.must [[61]]).bnd fun _ => Rt.expr.bnd fun e => Rt.ret (a := s ++ [⟨n, e⟩]) fun he _ hn hr => hr.add ⟨hn, he⟩).of_eq (fun _ => rfl)) 8 0 []).bnd fun sets =>
    (Rt.maybe [87, 72, 69, 82, 69]).bnd fun w => Rt.ret (a := { stm0 4 with table := t, sets := sets, wh := w.toList }) fun hw h _ ht => by
      obtain ⟨j, h1, h2, h3⟩ := h Row.nil
      exact .update t sets w.toList ht (by rw [h3.1]; omega) (by rw [h3.1]; omega) h3.2 hw).of_eq (fun _ => rfl)
theorem Rt.drop : Rt d RightS dropM :=
  ((Rt.must [[84, 65, 66, 76, 69]]).bnd fun _ => Rt.name.bnd fun t => Rt.ret (a := { stm0 2 with table := t }) fun ht _ => .drop t ht).of_eq (fun _ => rfl)
theorem Rt.remove : Rt 0 RightS removeM :=
  ((Rt.must [[70, 82, 79, 77]]).bnd fun _ => Rt.name.bnd fun t => (Rt.maybe [87, 72, 69, 82, 69]).bnd fun w => Rt.ret (a := { stm0 5 with table := t, wh := w.toList }) fun hw ht _ => .remove t w.toList ht hw).of_eq (fun _ => rfl)
def CreOk (n : Nat) (cs out : List Col) : Prop := cs.length ≤ 8 → (∀ c ∈ cs, RightC c) → (cs ≠ [] ∨ 1 ≤ n) → 1 ≤ out.length ∧ out.length ≤ 8 ∧ ∀ c ∈ out, RightC c
theorem Rt.cre : ∀ (n : Nat) (cs : List Col), Rt d (CreOk n cs) (creL n cs)
  | 0, cs => Rt.ret (a := cs) fun h1 h2 h3 => ⟨by rcases h3 with h3 | h3; exact List.length_pos_iff.2 h3; omega, h1, h2⟩
  | n + 1, cs => by
    have hrest : Rt d (CreOk (n + 1) cs) (bndM (if cs.length = 8 then fail' 2 else retM ()) fun _ => bndM coM fun c => bndM (must' [[44]]) fun _ => creL n (cs ++ [c])) :=
      (Rt.ite (P := fun _ => ¬ cs.length = 8) (fun _ => Rt.fail (by decide)) (fun h => Rt.ret h)).bnd fun _ => Rt.co.bnd fun c => (Rt.must [[44]]).bnd fun _ => (Rt.cre n (cs ++ [c])).mono fun out ho _ hc h8 h1 h2 h3 =>
        ho (by simp; omega) (fun y hy => by
          rcases List.mem_append.1 hy with hy | hy
          · exact h2 y hy
          · simp at hy; subst hy; exact hc) (.inl (by simp))
    intro r hw hd
    by_cases hc : r.c ≠ 0
    · unfold creL
      rw [if_pos hc]
      exact ⟨hw, hd, fun h => h, fun h => absurd h hc⟩
    have h0 : r.c = 0 := by simpa using hc
    by_cases hcs : cs = []
    · have e : creL (n + 1) cs r = (bndM (if cs.length = 8 then fail' 2 else retM ()) fun _ => bndM coM fun c => bndM (must' [[44]]) fun _ => creL n (cs ++ [c])) r := by
        unfold creL
        rw [if_neg (by simp [h0]), if_neg (by simp [hcs])]
        simp only [bndM, ite_app, fail', retM, must']
        split <;> rfl
      rw [e]
      exact hrest r hw hd
    · have e : creL (n + 1) cs r = (bndM (hasM sPRIM) fun b => if b = true then retM cs else bndM (if cs.length = 8 then fail' 2 else retM ()) fun _ => bndM coM fun c => bndM (must' [[44]]) fun _ => creL n (cs ++ [c])) r := by
        unfold creL
        rw [if_neg (by simp [h0])]
        cases hb : (hasM sPRIM r).1 with
        | true =>
          rw [if_pos ⟨hcs, rfl⟩]
          simp only [bndM, ite_app, hb, if_true, retM]
        | false =>
          rw [if_neg (by simp)]
          simp only [bndM, ite_app, hb, Bool.false_eq_true, if_false, retM, fail', must', hasM_no hb]
          split <;> rfl
      rw [e]
      exact ((Rt.has sPRIM).bnd fun b => Rt.ite (c := b = true) (fun _ => Rt.ret (a := cs) fun _ h1 h2 _ => ⟨List.length_pos_iff.2 hcs, h1, h2⟩) fun _ => hrest.mono fun _ h _ => h) r hw hd
theorem Rt.create : Rt d RightS createM :=
  ((Rt.must [[84, 65, 66, 76, 69]]).bnd fun _ => Rt.name.bnd fun t => (Rt.must [[40]]).bnd fun _ => (Rt.cre 10 []).bnd fun cs => (Rt.must [[75, 69, 89], [40]]).bnd fun _ => Rt.name.bnd fun p =>
    (Rt.must [[41], [41]]).bnd fun _ => Rt.ret (a := { stm0 1 with table := t, cols := cs, prim := p }) fun _ hp _ hc _ ht _ => by
      obtain ⟨a, b, c⟩ := hc (by simp) (by simp) (.inr (by decide))
      exact .create t p cs ht hp a b c).of_eq (fun _ => rfl)
theorem Rt.join : Rt 0 (fun j => (j.1 = [] ∧ j.2.toList = []) ∨ (nameB j.1 = true ∧ ∃ e, j.2.toList = [e] ∧ RightE e)) joinM :=
  ((Rt.has [74, 79, 73, 78]).bnd fun b => Rt.ite (c := b = true) (fun _ => Rt.name.bnd fun n => (Rt.must [[79, 78]]).bnd fun _ => Rt.expr.bnd fun e => Rt.ret (a := (n, some e)) fun he _ hn _ => .inr ⟨hn, e, rfl, he⟩) (fun _ => Rt.ret (a := ([], none)) fun _ => .inl ⟨rfl, rfl⟩)).of_eq
    (fun r => by simp only [joinM, bndM, retM, must', ite_app])
theorem Rt.desc (o : Option Ex) : Rt d (fun b => b = true → o.toList ≠ []) (descM o) := by
  cases o with
  | none => exact Rt.ret (a := false) fun h => by cases h
  | some e => exact (Rt.has _).mono fun _ _ _ => by simp
theorem Rt.lim : Rt d (fun n => -1 ≤ n ∧ n ≤ 9223372036854775807) limM :=
  ((Rt.has [76, 73, 77, 73, 84]).bnd fun b => Rt.ite (c := b = true) (fun _ => (Rt.take (k := 3) (by decide) (P := fun x => 0 ≤ x.2 ∧ x.2 ≤ 9223372036854775807) fun t h hk => wt_num h hk).bnd fun t => Rt.ret (a := t.2) fun h _ => ⟨by omega, h.2⟩) (fun _ => Rt.ret (a := -1) fun _ => by decide)).of_eq
    (fun r => by simp only [limM, bndM, retM, takeN, ite_app])
theorem Rt.choose : Rt 0 RightS chooseM :=
  ((Rt.many (one := choOne) (I := Row RightI) (fun k s => (Rt.item.bnd fun i => Rt.ret (a := s ++ [i]) fun hi hr => hr.add hi).of_eq (fun _ => rfl)) 8 0 []).bnd fun is => (Rt.must [[70, 82, 79, 77]]).bnd fun _ => Rt.name.bnd fun t => Rt.join.bnd fun j =>
    (Rt.maybe [87, 72, 69, 82, 69]).bnd fun w => (Rt.by [71, 82, 79, 85, 80]).bnd fun g => (Rt.by [79, 82, 68, 69, 82]).bnd fun o => (Rt.desc o).bnd fun d => Rt.lim.bnd fun l =>
      Rt.ret (a := Stm.mk 6 t [] [] [] [] is j.1 j.2.toList w.toList g.toList o.toList d l) fun hl hd ho hg hw hj ht _ his => by
        obtain ⟨k, h1, h2, h3⟩ := his Row.nil
        exact .choose t j.1 is j.2.toList w.toList g.toList o.toList d l ht (by rw [h3.1]; omega) (by rw [h3.1]; omega) h3.2 hj hw hg ho hd hl.1 hl.2).of_eq (fun _ => rfl)
theorem Rt.state : Rt 0 RightS stateM :=
  ((Rt.pass stOps).bnd fun k => Rt.ite (c := k = -1) (fun _ => (Rt.fail (P := fun _ => False) (e := 4) (by decide)).bnd fun _ => Rt.ret (a := stm0 0) fun h => h.elim) (fun _ => Rt.ite (c := k = 0) (fun _ => Rt.create.mono fun _ h _ => h) (fun _ => Rt.ite (c := k = 1) (fun _ => Rt.drop.mono fun _ h _ => h)
    (fun _ => Rt.ite (c := k = 2) (fun _ => Rt.insert.mono fun _ h _ => h) (fun _ => Rt.ite (c := k = 3) (fun _ => Rt.update.mono fun _ h _ => h) (fun _ => Rt.ite (c := k = 4) (fun _ => Rt.remove.mono fun _ h _ => h) (fun _ => Rt.choose.mono fun _ h _ => h))))))).of_eq
    (fun r => by simp only [stateM, bndM, retM, fail', ite_app])
theorem Rt.scr : ∀ (n : Nat) (out : List Stm), Rt 0 (fun l => (∀ s ∈ out, RightS s) → ∀ s ∈ l, RightS s) (scrL n out)
  | 0, out => Rt.ret (a := out) fun h => h
  | n + 1, out => by
    have ha : ∀ s : Stm, RightS s → (∀ x ∈ out, RightS x) → ∀ x ∈ out ++ [s], RightS x := fun s hs ho x hx => by
      rcases List.mem_append.1 hx with hx | hx
      · exact ho x hx
      · simp at hx; subst hx; exact hs
    have h : Rt 0 (fun l => (∀ s ∈ out, RightS s) → ∀ s ∈ l, RightS s) (bndM (if out.length = 8 then fail' 2 else retM ()) fun _ => bndM stateM fun s => bndM (hasM [59]) fun b => if b = true then scrL n (out ++ [s]) else retM (out ++ [s])) :=
      (Rt.ite (P := fun _ => True) (c := out.length = 8) (fun _ => Rt.fail (by decide)) (fun _ => Rt.ret trivial)).bnd fun _ => Rt.state.bnd fun s => (Rt.has [59]).bnd fun b =>
        Rt.ite (c := b = true) (fun _ => (Rt.scr n (out ++ [s])).mono fun l hl _ hs _ ho => hl (ha s hs ho)) (fun _ => Rt.ret (a := out ++ [s]) fun _ hs _ ho => ha s hs ho)
    refine h.of_eq fun r => ?_
    unfold scrL
    have e1 : (if out.length = 8 then fail' 2 else retM ()) r = ((), if out.length = 8 then failM 2 r else r) := by split <;> rfl
    simp only [bndM, e1, retM, ite_app]
end
end Go.Proofs.YtpepmfhemjeocaaGreatDoor
end
section
/- Plain: what ParseEmpty and ParseBrackets say of the readers. -/
set_option linter.unusedVariables false
set_option linter.unusedSimpArgs false
namespace Go.Proofs.YtpepmfhemjeocaaGreatDoor

theorem lexM_fine {s : Str} (h : (lexM s).2.c = 0) : s.length ≤ 2000 ∧ lexM s = lexF (s.length + 1) s 0 [] := by
  unfold lexM at h ⊢
  split at h
  · cases h
  · rename_i h1
    rw [if_neg h1]
    exact ⟨by omega, rfl⟩
theorem lexM_ext {s : Str} (h : (lexM s).2.c = 0) : ∃ pre, lexM s = (pre ++ [endT s.length], ⟨0, 0⟩) ∧ (∀ x ∈ pre, x.kind ≠ 6) ∧ ∀ t : Str, s.length + 1 + t.length ≤ 2000 → lexM (s ++ 10 :: t) = lexF (t.length + 1) t (s.length + 1) pre := by
  obtain ⟨h1, h2⟩ := lexM_fine h
  rw [h2] at h
  obtain ⟨pre, e1, e2, _⟩ := lexF_ext [] (s.length + 1) s 0 [] (by omega) h (by simp) (s.length + 2) (by simp)
  refine ⟨pre, by rw [h2, e1, Nat.zero_add], e2, fun t ht => ?_⟩
  obtain ⟨pre', e3, e4, e5⟩ := lexF_ext t (s.length + 1) s 0 [] (by omega) h (by simp) ((s ++ 10 :: t).length + 1) (by simp; omega)
  have hp : pre' = pre := by
    rw [e1] at e3
    exact (List.append_cancel_right (Prod.mk.inj e3).1).symm
  subst hp
  rw [Nat.zero_add] at e5
  rw [← e5]
  unfold lexM
  rw [if_neg (by simp; omega)]
theorem lex_close (a : Nat) (pre : List Tok) : lexF 3 [41, 32] a pre = ((pre ++ [⟨5, [41], 0, (a : Int)⟩]) ++ [endT (a + 2)], ⟨0, 0⟩) := rfl
theorem lex_close1 (a : Nat) (pre : List Tok) : lexF 2 [41] a pre = ((pre ++ [⟨5, [41], 0, (a : Int)⟩]) ++ [endT (a + 1)], ⟨0, 0⟩) := rfl
theorem lex_semi (a : Nat) (pre : List Tok) : lexF 2 [59] a pre = ((pre ++ [⟨5, [59], 0, (a : Int)⟩]) ++ [endT (a + 1)], ⟨0, 0⟩) := rfl
theorem ext_self (Z : List Tok) (E : Tok) (hE : E.kind = 6) : ∀ pre : List Tok, (∀ x ∈ pre, x.kind ≠ 6) → Ext Z (pre ++ [E]) (pre ++ Z)
  | [], _ => .last E hE
  | x :: pre, h => .cons x x _ _ (h x (by simp)) ⟨rfl, rfl, rfl⟩ (ext_self Z E hE pre fun y hy => h y (by simp [hy]))
theorem ext_shift (Z : List Tok) (E : Tok) (hE : E.kind = 6) (d : Nat) : ∀ pre : List Tok, (∀ x ∈ pre, x.kind ≠ 6) → Ext Z (pre ++ [E]) (pre.map (shT d) ++ Z)
  | [], _ => .last E hE
  | x :: pre, h => .cons x (shT d x) _ _ (h x (by simp)) ⟨rfl, rfl, rfl⟩ (ext_shift Z E hE d pre fun y hy => h y (by simp [hy]))
theorem zt_two {x E : Tok} (hx : x.kind = 5) (ht : x.text = [41] ∨ x.text = [59]) (hE : E.kind = 6) : Zt [x, E] :=
  ⟨⟨by simp, .inl hx, [x], E, rfl, hE⟩, .inr ht⟩

/-! ### Scripts -/
def scrN (n : Nat) (out : List Stm) : R → List Stm × R := scrL n out
theorem Gd.scr {Z : List Tok} (hz : Zt Z) (h59 : Zno Z [[59]]) : ∀ (n : Nat) (out : List Stm), Gd Z 0 0 (scrL n out) (scrL n out)
  | 0, out => Gd.ret out
  | n + 1, out => by
    have h := (Gd.ite (Z := Z) (D := 0) (d := 0) (c := out.length = 8) (Gd.fail 2 (by decide)) (Gd.ret ())).bnd fun _ => (Gd.state hz).bnd fun s => (Gd.has hz.toZok h59).bnd fun b => Gd.ite (c := b = true) (Gd.scr hz h59 n (out ++ [s])) (Gd.ret (out ++ [s]))
    have e : ∀ r, scrL (n + 1) out r = _ := fun r => by
      show scrL (n + 1) out r = (bndM (if out.length = 8 then fail' 2 else retM ()) fun _ => bndM stateM fun s => bndM (hasM [59]) fun b => if b = true then scrL n (out ++ [s]) else retM (out ++ [s])) r
      unfold scrL
      have e1 : (if out.length = 8 then fail' 2 else retM ()) r = ((), if out.length = 8 then failM 2 r else r) := by split <;> rfl
      simp only [bndM, e1, retM, ite_app]
    exact h.of_eq e e
theorem endM_zero {r : R} (h : (endM r).c = 0) : r.c = 0 ∧ (hd r).kind = 6 := by
  unfold endM at h
  split at h
  · exact absurd h (failM_c 4 r (by decide))
  · rename_i hn
    refine ⟨h, ?_⟩
    by_cases h6 : (hd r).kind = 6
    · exact h6
    · exact absurd ⟨h, h6⟩ hn
theorem scrL_len : ∀ (n : Nat) (out : List Stm) (r : R), 1 ≤ n → out.length ≤ 8 → n + out.length = 9 → (scrL n out r).2.c = 0 → 1 ≤ (scrL n out r).1.length ∧ (scrL n out r).1.length ≤ 8
  | 0, out, r, h, _, _, _ => by omega
  | n + 1, out, r, h1, h8, hn, hc => by
    unfold scrL at hc ⊢
    have hbad : out.length = 8 → (stateM (if out.length = 8 then failM 2 r else r)).2.c ≠ 0 := fun h => by
      rw [if_pos h]
      have := failM_c 2 r (by decide)
      rw [stateM_bad this]
      exact this
    generalize (if out.length = 8 then failM 2 r else r) = q at hc hbad ⊢
    by_cases h88 : out.length = 8
    · have hb := hbad h88
      rw [hasM_bad hb] at hc
      exact absurd hc hb
    · split
      · rename_i hh
        rw [if_pos hh] at hc
        exact scrL_len n _ _ (by omega) (by simp; omega) (by simp; omega) hc
      · simp only [List.length_append, List.length_cons, List.length_nil]
        omega
theorem sim_start {Z : List Tok} {pre : List Tok} (h : ∀ x ∈ pre, x.kind ≠ 6) (E : Tok) (hE : E.kind = 6) : Sim Z 0 0 ⟨pre ++ [E], 0, 0, 0⟩ ⟨pre ++ Z, 0, 0, 0⟩ := ⟨ext_self Z E hE pre h, rfl, rfl, rfl, rfl⟩
/-- Behind a script a ) is at fault. -/
theorem scr_close {pre : List Tok} (h : ∀ x ∈ pre, x.kind ≠ 6) (a b c : Nat) (hc : (endM (scrL 9 [] ⟨pre ++ [endT a], 0, 0, 0⟩).2).c = 0) :
    (endM (scrL 9 [] ⟨(pre ++ [⟨5, [41], 0, (b : Int)⟩]) ++ [endT c], 0, 0, 0⟩).2).c = 4 ∧ (endM (scrL 9 [] ⟨(pre ++ [⟨5, [41], 0, (b : Int)⟩]) ++ [endT c], 0, 0, 0⟩).2).a = b := by
  obtain ⟨h1, h2⟩ := endM_zero hc
  have hz : Zt [⟨5, [41], 0, (b : Int)⟩, endT c] := zt_two rfl (.inl rfl) rfl
  have hg := (Gd.scr hz (.inr (show ([41] : Str) ∉ ([[59]] : List Str) by decide)) 9 []).sim _ _ (sim_start h (endT a) rfl)
  rw [List.append_assoc]
  rcases hg with hg | hg | ⟨_, hs⟩
  · exact absurd h1 hg
  · exact absurd rfl hg.1
  · rcases hs.hd_cases hz.toZok with ⟨h6, _⟩ | ⟨_, hq, _⟩
    · exact absurd h2 h6
    · have hq5 : (hd (scrL 9 [] ⟨pre ++ ([⟨5, [41], 0, (b : Int)⟩] ++ [endT c]), 0, 0, 0⟩).2) = ⟨5, [41], 0, (b : Int)⟩ := hq
      have hqc : (scrL 9 [] ⟨pre ++ ([⟨5, [41], 0, (b : Int)⟩] ++ [endT c]), 0, 0, 0⟩).2.c = 0 := hs.c2
      unfold endM
      rw [if_pos ⟨hqc, by rw [hq5]; show (5 : Int) ≠ 6; decide⟩]
      simp only [failM, hqc, if_true, hq5]
      exact ⟨trivial, trivial⟩
/-- Behind a ; a statement must stand. -/
theorem scr_semi {x E : Tok} (hx : x.kind = 5) (ht : x.text = [59]) (hE : E.kind = 6) : ∀ (n : Nat) (out : List Stm) (r q : R), Sim [x, E] 0 0 r q → n + out.length = 9 → out.length ≤ 8 → (endM (scrL n out r).2).c = 0 →
    (endM (scrL n out q).2).a = E.at_ ∧ ((endM (scrL n out q).2).c = 4 ∨ (endM (scrL n out q).2).c = 2 ∧ (scrL n out r).1.length = 8)
  | 0, out, r, q, _, _, _, _ => by omega
  | n + 1, out, r, q, hsim, hn, h8, hc => by
    have hz : Zt [x, E] := zt_two hx (.inr ht) hE
    by_cases h88 : out.length = 8
    · -- too many
      have hbad : (scrL (n + 1) out r).2.c ≠ 0 := by
        have hb : (stateM (failM 2 r)).2.c ≠ 0 := by
          have := failM_c 2 r (by decide)
          rw [stateM_bad this]
          exact this
        unfold scrL
        rw [if_pos h88, hasM_bad hb]
        exact hb
      exact absurd (endM_zero hc).1 hbad
    · unfold scrL at hc ⊢
      simp only [if_neg h88] at hc ⊢
      have hfault : (stateM r).2.c ≠ 0 → False := fun hb => by
        rw [hasM_bad hb] at hc
        exact hb (endM_zero hc).1
      rcases (Gd.state hz).sim r q hsim with h1 | h1 | ⟨h1, h2⟩
      · exact (hfault h1).elim
      · exact absurd rfl h1.1
      rw [h1]
      cases hy : (hasM [59] (stateM r).2).1 with
      | true =>
        obtain ⟨h3, h4⟩ := hasM_sim_yes hz.toZok h2 hy
        rw [hy] at hc
        simp only [if_true] at hc
        rw [h3]
        simp only [if_true]
        exact scr_semi hx ht hE n _ _ _ h4 (by simp; omega) (by simp; omega) hc
      | false =>
        rw [hy] at hc
        simp only [Bool.false_eq_true, if_false] at hc
        rw [hasM_no hy] at hc
        obtain ⟨h5, h6⟩ := endM_zero hc
        rcases h2.hd_cases hz.toZok with ⟨h7, _⟩ | ⟨_, h7, _, h9⟩
        · exact absurd h6 h7
        have hyes : hasM [59] (stateM q).2 = (true, (stateM q).2.tail) := by
          have hi : isM [[59]] (stateM q).2 = 0 := by
            unfold isM
            rw [h7]
            show (if (stateM q).2.c = 0 ∧ (x.kind = 2 ∨ x.kind = 5) then idxF [[59]] x.text else -1) = 0
            rw [if_pos ⟨h2.c2, .inr hx⟩, ht]
            rfl
          simp [hasM, passM, hi]
        rw [hyes]
        simp only [if_true, Bool.false_eq_true, if_false]
        have htail : (stateM q).2.tail.ts = [E] := by show (stateM q).2.ts.tail = [E]; rw [h9]; rfl
        have hhd : hd (stateM q).2.tail = E := by simp [hd, htail]
        have hc0 : (stateM q).2.tail.c = 0 := h2.c2
        generalize (stateM q).2.tail = p at htail hhd hc0 ⊢
        obtain ⟨m, rfl⟩ : ∃ m, n = m + 1 := ⟨n - 1, by omega⟩
        have hpass : passM stOps p = (-1, p) := by
          have : isM stOps p = -1 := by simp [isM, hhd, hE]
          simp [passM, this]
        have hstate : stateM p = (stm0 0, failM 4 p) := by simp [stateM, hpass]
        have hend : ∀ q' : R, q'.c ≠ 0 → endM q' = q' := fun q' h => by simp [endM, h]
        unfold scrL
        simp only [List.length_append, List.length_cons, List.length_nil]
        by_cases h7' : out.length + (0 + 1) = 8
        · simp only [if_pos h7']
          have hb := failM_c 2 p (by decide)
          rw [stateM_bad hb, hasM_bad hb]
          simp only [Bool.false_eq_true, if_false]
          rw [hend _ hb]
          refine ⟨by simp [failM, hc0, hhd], .inr ⟨by simp [failM, hc0], by simp; omega⟩⟩
        · simp only [if_neg h7']
          have hb := failM_c 4 p (by decide)
          rw [hstate, hasM_bad hb]
          simp only [Bool.false_eq_true, if_false]
          rw [hend _ hb]
          exact ⟨by simp [failM, hc0, hhd], .inl (by simp [failM, hc0])⟩
theorem scriptM_zero {l : List Tok} {f : Ft} (h : (scriptM l f).2.c = 0) : f.c = 0 ∧ (endM (scrL 9 [] ⟨l, 0, 0, 0⟩).2).c = 0 ∧ (scriptM l f).1 = (scrL 9 [] ⟨l, 0, 0, 0⟩).1 := by
  unfold scriptM at h ⊢
  split at h
  · rename_i h1; exact absurd h h1
  · rename_i h1
    split at h
    · rename_i h2; exact absurd h h2
    · rename_i h2
      rw [if_neg h1, if_neg h2]
      exact ⟨by simpa using h1, by simpa using h2, rfl⟩
end Go.Proofs.YtpepmfhemjeocaaGreatDoor
end
section
/- Two expressions compared. -/
set_option linter.unusedVariables false
set_option linter.unusedSimpArgs false
namespace Go.Proofs.YtpepmfhemjeocaaGreatDoor
open Go

def vlEq (a b : Vl) : Bool := a.k == b.k && (a.n == b.n && (a.t == b.t && true))
mutual
def sameM : Ex → Ex → Bool
  | .mk k o t n v l, .mk k' o' t' n' v' l' => k == k' && (o == o' && (t == t' && (n == n' && (vlEq v v' && samesM l l'))))
def samesM : List Ex → List Ex → Bool
  | [], [] => true
  | x :: xs, y :: ys => sameM x y && samesM xs ys
  | _, _ => false
end
theorem samesM_len : ∀ {l m : List Ex}, l.length ≠ m.length → samesM l m = false
  | [], [], h => absurd rfl h
  | [], _ :: _, _ => rfl
  | _ :: _, [], _ => rfl
  | x :: xs, y :: ys, h => by
    simp only [samesM, samesM_len (l := xs) (m := ys) (by simpa using h), Bool.and_false]
def exsPV (l : List Ex) : PV := .list 8 (exPVs l) .no
theorem exsPV_clean (l : List Ex) : PV.clean 0 0 (exsPV l) = true := by simp [exsPV, PV.clean, exs_clean]
theorem exPVs_get {l : List Ex} {i : Nat} (h : i < l.length) : (exPVs l)[i]? = some (exPV l[i]) := by
  rw [exPVs_eq, List.getElem?_map, List.getElem?_eq_getElem h]
  rfl
theorem exPVs_len (l : List Ex) : (exPVs l).length = l.length := by rw [exPVs_eq, List.length_map]
theorem exPV_isAgg (e : Ex) : (exPV e).isAgg = true := rfl
attribute [go_sem] exPVs_len exPV_isAgg
theorem sames_of {l : List Ex} (h : ∀ x ∈ l, ∀ y, Pure Tryz.prog 14 [exPV x, exPV y] (.bool (sameM x y))) (m : List Ex) (hl : l.length ≤ 1000000000000000) :
    Pure Tryz.prog 30 [exsPV l, exsPV m] (.bool (samesM l m)) := by
  unfold exsPV
  refine PC.intro tab_ok Tryz.func30 rfl (by kernel_rfl) Tryz.ntmps30 (Nat.le_of_ble_eq_true rfl) (rs := _) (congrArg Array.toList Tryz.results30) ?_
  (repeat (refine PW.go tab_ok [] fun K hK => ?_; simp only [go_sem, ↓reduceIte, reduceCtorEq, Nat.reduceBEq, Nat.reduceAdd, Nat.reduceMul, Nat.reduceSub, Nat.reduceLT, Nat.reduceLeDiff, Nat.reduceEqDiff]; (refine hK _ _ ?_; clear hK K)))
  refine PW.seq_k fun K0 hK0 => ?_
  refine PW.go tab_ok [] fun K hK => ?_
  simp only [go_sem, ↓reduceIte, reduceCtorEq, Nat.reduceBEq, Nat.reduceAdd, Nat.reduceMul, Nat.reduceSub, Nat.reduceLT, Nat.reduceLeDiff, Nat.reduceEqDiff]
  (refine hK _ _ ?_; (try clear hK); (try clear K))
  refine PW.cond_split (b := (l.length : Int) != (m.length : Int)) rfl ?_ ?_ <;> intro hb
  · have hne : l.length ≠ m.length := by
      have : (l.length : Int) ≠ (m.length : Int) := by simpa using hb
      omega
    (repeat (refine PW.go tab_ok [] fun K hK => ?_; simp only [go_sem, ↓reduceIte, reduceCtorEq, Nat.reduceBEq, Nat.reduceAdd, Nat.reduceMul, Nat.reduceSub, Nat.reduceLT, Nat.reduceLeDiff, Nat.reduceEqDiff]; (refine hK _ _ ?_; clear hK K)))
    exact PW.ret (Pure.ret rfl (by rw [samesM_len hne]; rfl) rfl)
  have heq : l.length = m.length := by
    have : (l.length : Int) = (m.length : Int) := by simpa using hb
    omega
  refine PW.skip (hK0 _ _ ?_); clear hK0 K0
  refine PW.seq_k fun K0 hK0 => ?_
  refine PW.go tab_ok [] fun K hK => ?_
  simp only [go_sem, ↓reduceIte, reduceCtorEq, Nat.reduceBEq, Nat.reduceAdd, Nat.reduceMul, Nat.reduceSub, Nat.reduceLT, Nat.reduceLeDiff, Nat.reduceEqDiff]
  (refine hK _ _ ?_; (try clear hK); (try clear K))
  refine PW.block (PW.loop (α := Nat) (fun k => [(5, .int .i64 (k : Int)), (0, .list 8 (exPVs l) .no), (1, .list 8 (exPVs m) .no)]) (fun _ => ⟨[], []⟩)
    (fun k => k ≤ l.length ∧ samesM l m = samesM (l.drop k) (m.drop k)) (fun k => l.length - k) 0 ⟨Nat.zero_le _, rfl⟩ ?_ rfl (fun _ _ => ⟨rfl, rfl⟩) ?_)
  · simp [Sub, eget]
  rintro k ⟨hk, he⟩
  refine PW.seq_k fun K2 hK2 => ?_
  refine PW.go tab_ok [] fun K hK => ?_
  simp only [go_sem, ↓reduceIte, reduceCtorEq, Nat.reduceBEq, Nat.reduceAdd, Nat.reduceMul, Nat.reduceSub, Nat.reduceLT, Nat.reduceLeDiff, Nat.reduceEqDiff]
  (refine hK _ _ ?_; (try clear hK); (try clear K))
  refine PW.cond_split (b := decide ((k : Int) < (l.length : Int))) rfl ?_ ?_ <;> intro hc
  · have hlt : k < l.length := by simpa using hc
    have hltm : k < m.length := by omega
    have h0 : (0 : Int) ≤ (k : Int) := by omega
    have hg1 := exPVs_get hlt
    have hg2 := exPVs_get hltm
    rw [List.drop_eq_getElem_cons hlt, List.drop_eq_getElem_cons hltm] at he
    have hpc := h l[k] (List.getElem_mem hlt) m[k]
    refine PW.skip (hK2 _ _ ?_)
    clear hK2
    refine PW.seq_k fun K3 hK3 => PW.block ?_
    generalize l[k] = x at hg1 he hpc
    generalize m[k] = y at hg2 he hpc
    simp only [samesM] at he
    refine PW.draws tab_ok mixed [] [(0, []), (1, []), (2, []), (3, []), (4, []), (5, []), (6, []), (7, []), (8, []), (9, [])] (by kernel_rfl) fun K hK => ?_
    simp only [h0, Int.toNat_natCast, hg1, hg2, agg_exC, go_sem, ↓reduceIte, reduceCtorEq, Nat.reduceBEq, Nat.reduceAdd, Nat.reduceMul, Nat.reduceSub, Nat.reduceLT, Nat.reduceLeDiff, Nat.reduceEqDiff]
    refine hpc.use (Weaks.refl _) (by simp [PVs.clean, exPV_clean]) rfl ?_
    refine GO.go tab_ok ?_
    simp only [go_sem, ↓reduceIte, reduceCtorEq, Nat.reduceBEq, Nat.reduceAdd, Nat.reduceMul, Nat.reduceSub, Nat.reduceLT, Nat.reduceLeDiff, Nat.reduceEqDiff]
    (refine hK _ _ ?_; (try clear hK); (try clear K))
    refine PW.go tab_ok [] fun K hK => ?_
    simp only [go_sem, ↓reduceIte, reduceCtorEq, Nat.reduceBEq, Nat.reduceAdd, Nat.reduceMul, Nat.reduceSub, Nat.reduceLT, Nat.reduceLeDiff, Nat.reduceEqDiff]
    (refine hK _ _ ?_; (try clear hK); (try clear K))
    refine PW.cond_split (b := !sameM x y) rfl ?_ ?_ <;> intro hb2
    · have hs : sameM x y = false := by simpa using hb2
      (repeat (refine PW.go tab_ok [] fun K hK => ?_; simp only [go_sem, ↓reduceIte, reduceCtorEq, Nat.reduceBEq, Nat.reduceAdd, Nat.reduceMul, Nat.reduceSub, Nat.reduceLT, Nat.reduceLeDiff, Nat.reduceEqDiff]; (refine hK _ _ ?_; clear hK K)))
      exact PW.ret (Pure.ret rfl (by rw [he, hs]; rfl) rfl)
    · have hs : sameM x y = true := by simpa using hb2
      rw [hs, Bool.true_and] at he
      refine PW.skip (hK3 _ _ ?_)
      have hw : IntKind.i64.wrap ((k : Int) + 1) = ((k + 1 : Nat) : Int) := by
        rw [show (k : Int) + 1 = ((k + 1 : Nat) : Int) from by omega]
        exact wrap_nat (by omega)
      refine PW.goL tab_ok [] fun K hK => ?_
      simp only [go_sem, ↓reduceIte, reduceCtorEq, Nat.reduceBEq, Nat.reduceAdd, Nat.reduceMul, Nat.reduceSub, Nat.reduceLT, Nat.reduceLeDiff, Nat.reduceEqDiff]
      (refine hK _ _ ?_; (try clear hK); (try clear K))
      exact ⟨k + 1, ⟨by omega, he⟩, by omega, by simp [Sub, eget, hw], ⟨by simp, rfl, by simp⟩, by simp [Env.clean, PV.clean, PVs.clean_data (exs_clean l), PVs.clean_data (exs_clean m)]⟩
  · have hge : k = l.length := by
      have : ¬ (k : Int) < (l.length : Int) := by simpa using hc
      omega
    subst hge
    rw [List.drop_length, heq, List.drop_length] at he
    refine PW.exit (hK0 _ _ ?_)
    (repeat (refine PW.go tab_ok [] fun K hK => ?_; simp only [go_sem, ↓reduceIte, reduceCtorEq, Nat.reduceBEq, Nat.reduceAdd, Nat.reduceMul, Nat.reduceSub, Nat.reduceLT, Nat.reduceLeDiff, Nat.reduceEqDiff]; (refine hK _ _ ?_; clear hK K)))
    exact PW.ret (Pure.ret rfl (by rw [he]; rfl) rfl)
theorem exC_eq (k o : Int) (t n : Str) (v : Vl) (l : List Ex) : exC (.mk k o t n v l) = [.int .i64 k, .int .i64 o, .str t, .str n, .int .i64 v.k, .int .i64 v.n, .str v.t, exsPV l] := rfl
set_option maxRecDepth 100000 in
theorem same_of {k o : Int} {t n : Str} {v : Vl} {l : List Ex} (h : ∀ m, Pure Tryz.prog 30 [exsPV l, exsPV m] (.bool (samesM l m))) (b : Ex) :
    Pure Tryz.prog 14 [exPV (.mk k o t n v l), exPV b] (.bool (sameM (.mk k o t n v l) b)) := by
  obtain ⟨k', o', t', n', v', l'⟩ := b
  have hm := h l'
  have hz : sameM (.mk k o t n v l) (.mk k' o' t' n' v' l') = (k == k' && (o == o' && (t == t' && (n == n' && (vlEq v v' && samesM l l'))))) := by simp only [sameM]
  refine PC.intro tab_ok Tryz.func14 rfl (by kernel_rfl) Tryz.ntmps14 (Nat.le_of_ble_eq_true rfl) (rs := _) (congrArg Array.toList Tryz.results14) ?_
  (repeat (refine PW.go tab_ok [] fun K hK => ?_; simp only [go_sem, ↓reduceIte, reduceCtorEq, Nat.reduceBEq, Nat.reduceAdd, Nat.reduceMul, Nat.reduceSub, Nat.reduceLT, Nat.reduceLeDiff, Nat.reduceEqDiff]; (refine hK _ _ ?_; clear hK K)))
  refine PW.go tab_ok [] fun K hK => ?_
  generalize h1 : (k == k') = b1 at hz ⊢
  generalize h2 : (o == o') = b2 at hz ⊢
  generalize h3 : (t == t') = b3 at hz ⊢
  generalize h4 : (n == n') = b4 at hz ⊢
  generalize h5 : vlEq v v' = b5 at hz ⊢
  have h5' : (v.k == v'.k && (v.n == v'.n && v.t == v'.t)) = b5 := by rw [← h5]; simp [vlEq]
  cases b1
  · simp only [exC_eq, eqCells, h1, go_sem, ↓reduceIte, reduceCtorEq, Nat.reduceBEq, Nat.reduceAdd, Nat.reduceMul, Nat.reduceSub, Nat.reduceLT, Nat.reduceLeDiff, Nat.reduceEqDiff]
    (refine hK _ _ ?_; (try clear hK); (try clear K))
    exact PW.ret (Pure.ret rfl (by rw [hz]; rfl) rfl)
  cases b2
  · simp only [exC_eq, eqCells, h1, h2, go_sem, ↓reduceIte, reduceCtorEq, Nat.reduceBEq, Nat.reduceAdd, Nat.reduceMul, Nat.reduceSub, Nat.reduceLT, Nat.reduceLeDiff, Nat.reduceEqDiff]
    (refine hK _ _ ?_; (try clear hK); (try clear K))
    exact PW.ret (Pure.ret rfl (by rw [hz]; rfl) rfl)
  cases b3
  · simp only [exC_eq, eqCells, h1, h2, h3, go_sem, ↓reduceIte, reduceCtorEq, Nat.reduceBEq, Nat.reduceAdd, Nat.reduceMul, Nat.reduceSub, Nat.reduceLT, Nat.reduceLeDiff, Nat.reduceEqDiff]
    (refine hK _ _ ?_; (try clear hK); (try clear K))
    exact PW.ret (Pure.ret rfl (by rw [hz]; rfl) rfl)
  cases b4
  · simp only [exC_eq, eqCells, h1, h2, h3, h4, go_sem, ↓reduceIte, reduceCtorEq, Nat.reduceBEq, Nat.reduceAdd, Nat.reduceMul, Nat.reduceSub, Nat.reduceLT, Nat.reduceLeDiff, Nat.reduceEqDiff]
    (refine hK _ _ ?_; (try clear hK); (try clear K))
    exact PW.ret (Pure.ret rfl (by rw [hz]; rfl) rfl)
  cases b5
  · simp only [exC_eq, eqCells, h1, h2, h3, h4, h5', go_sem, ↓reduceIte, reduceCtorEq, Nat.reduceBEq, Nat.reduceAdd, Nat.reduceMul, Nat.reduceSub, Nat.reduceLT, Nat.reduceLeDiff, Nat.reduceEqDiff]
    (refine hK _ _ ?_; (try clear hK); (try clear K))
    exact PW.ret (Pure.ret rfl (by rw [hz]; rfl) rfl)
  simp only [exC_eq, eqCells, h1, h2, h3, h4, h5', go_sem, ↓reduceIte, reduceCtorEq, Nat.reduceBEq, Nat.reduceAdd, Nat.reduceMul, Nat.reduceSub, Nat.reduceLT, Nat.reduceLeDiff, Nat.reduceEqDiff]
  refine hm.use (Weaks.refl _) (by simp [PVs.clean, exsPV_clean]) rfl ?_
  refine PO.go tab_ok [] ?_
  simp only [go_sem, ↓reduceIte, reduceCtorEq, Nat.reduceBEq, Nat.reduceAdd, Nat.reduceMul, Nat.reduceSub, Nat.reduceLT, Nat.reduceLeDiff, Nat.reduceEqDiff]
  (refine hK _ _ ?_; (try clear hK); (try clear K))
  exact PW.ret (Pure.ret rfl (by rw [hz]; simp [resPV]) rfl)
/-! ### How many arguments at most, anywhere -/
mutual
def Ex.few (n : Nat) : Ex → Bool
  | .mk _ _ _ _ _ l => decide (l.length ≤ n) && Exs.few n l
def Exs.few (n : Nat) : List Ex → Bool
  | [] => true
  | x :: xs => Ex.few n x && Exs.few n xs
end
mutual
theorem same_pc : ∀ (a b : Ex), Ex.few 1000000000000000 a = true → Pure Tryz.prog 14 [exPV a, exPV b] (.bool (sameM a b))
  | .mk k o t n v l, b, h => by
    simp only [Ex.few, Bool.and_eq_true, decide_eq_true_eq] at h
    exact same_of (fun m => sames_of (fun x hx y => same_all l h.2 x hx y) m h.1) b
theorem same_all : ∀ (l : List Ex), Exs.few 1000000000000000 l = true → ∀ x ∈ l, ∀ y, Pure Tryz.prog 14 [exPV x, exPV y] (.bool (sameM x y))
  | [], _, x, hx, y => by simp at hx
  | e :: es, h, x, hx, y => by
    simp only [Exs.few, Bool.and_eq_true] at h
    rcases List.mem_cons.1 hx with hx | hx
    · rw [hx]; exact same_pc e y h.1
    · exact same_all es h.2 x hx y
end
theorem sames_pc (l m : List Ex) (h : Exs.few 1000000000000000 l = true) (hl : l.length ≤ 1000000000000000) : Pure Tryz.prog 30 [exsPV l, exsPV m] (.bool (samesM l m)) := sames_of (same_all l h) m hl
end Go.Proofs.YtpepmfhemjeocaaGreatDoor
end
section
/- Plain: a tree is as itself; few arguments. -/
set_option linter.unusedVariables false
set_option linter.unusedSimpArgs false
namespace Go.Proofs.YtpepmfhemjeocaaGreatDoor

mutual
theorem sameM_refl : ∀ e : Ex, sameM e e = true
  | .mk k o t n v l => by simp [sameM, vlEq, samesM_refl l]
theorem samesM_refl : ∀ l : List Ex, samesM l l = true
  | [] => rfl
  | e :: es => by simp [samesM, sameM_refl e, samesM_refl es]
end
/-! ### Few arguments -/
def Fw (m : R → Ex × R) : Prop := ∀ r, Ex.few 1000000000000000 (m r).1 = true
theorem few0 : Ex.few 1000000000000000 ex0 = true := rfl
theorem few_of (k : Int) {e : Ex} (h : Ex.few 1000000000000000 e = true) : Ex.few 1000000000000000 (ofM k e) = true := by simp [ofM, Ex.few, Exs.few, h]
theorem few_op (k : Int) {e f : Ex} (h : Ex.few 1000000000000000 e = true) (h' : Ex.few 1000000000000000 f = true) : Ex.few 1000000000000000 (opM k e f) = true := by simp [opM, Ex.few, Exs.few, h, h']
theorem rowL_few {m : R → Ex × R} (h : Fw m) (first : Int) (ops : List Str) : ∀ (n : Nat) (e : Ex) (r : R), Ex.few 1000000000000000 e = true → Ex.few 1000000000000000 (rowL m first ops n e r).1 = true
  | 0, e, r, he => he
  | n + 1, e, r, he => by
    unfold rowL
    split
    · exact he
    · exact rowL_few h first ops n _ _ (few_op _ he (h _))
theorem rowM_few {m : R → Ex × R} (h : Fw m) (first : Int) (ops : List Str) : Fw (rowM m first ops) := fun r => rowL_few h first ops _ _ _ (h r)
theorem withM_few {m : R → Ex × R} (h : Fw m) : Fw (withM m) := fun r => by
  unfold withM
  split
  · exact h _
  · exact few0
theorem colM_few : Fw colM := fun r => by
  unfold colM
  simp only
  split <;> rfl
theorem facM_few {m t : R → Ex × R} (h : Fw m) (h' : Fw t) : Fw (facM m t) := fun r => by
  unfold facM
  (repeat' split)
  · rfl
  · exact few_of 5 (withM_few h _)
  · exact withM_few h' _
  · exact colM_few _
theorem testM_few {m : R → Ex × R} (h : Fw m) : Fw (testM m) := fun r => by
  unfold testM
  (repeat' split)
  · exact h _
  · exact few_op _ (h _) (h _)
  · exact few_of 4 (few_of 6 (h _))
  · exact few_of 6 (h _)
theorem notM_few {m t : R → Ex × R} (h : Fw m) (h' : Fw t) : Fw (notM m t) := fun r => by
  unfold notM
  split
  · exact few_of 4 (withM_few h _)
  · exact h' _
theorem mkLv_few {l : Lv} (h : Fw l.fac ∧ Fw l.nt ∧ Fw l.ex) : Fw (mkLv l).fac ∧ Fw (mkLv l).nt ∧ Fw (mkLv l).ex := by
  have hf := facM_few h.1 h.2.2
  have hn := notM_few h.2.1 (testM_few (rowM_few (rowM_few hf 11 termOps) 9 sumOps))
  exact ⟨hf, hn, rowM_few (rowM_few hn 2 andOps) 1 exprOps⟩
theorem lv_few : ∀ n, Fw (lv n).fac ∧ Fw (lv n).nt ∧ Fw (lv n).ex
  | 0 => mkLv_few ⟨fun _ => few0, fun _ => few0, fun _ => few0⟩
  | n + 1 => mkLv_few (lv_few n)
theorem exprM_few : Fw exprM := (lv_few 10).2.2
theorem oneM_few (l : List Tok) (f : Ft) : Ex.few 1000000000000000 (oneM l f).1 = true := by
  unfold oneM
  (repeat' split)
  · exact few0
  · exact few0
  · exact exprM_few _

end Go.Proofs.YtpepmfhemjeocaaGreatDoor
end
section
/- The document's comparisons, at what is alike. -/
set_option linter.unusedVariables false
set_option linter.unusedSimpArgs false
namespace Go.Proofs.YtpepmfhemjeocaaGreatDoor
open Go

theorem coSelf (x : Col) : (x.name == x.name && (x.kind == x.kind && (x.nn == x.nn && x.un == x.un))) = true := by simp
theorem vlSelf (x : Vl) : (x.k == x.k && (x.n == x.n && x.t == x.t)) = true := by simp
theorem colsSame_pc {l : List Col} (hl : l.length ≤ 1000000000000000) :
    Pure Tryz.prog 113 [.list 4 (l.map coPV) .no, .list 4 (l.map coPV) .no] (.bool true) := by
  have hcl : ∀ n m, PVs.clean n m (l.map coPV) = true := fun n m => clean_map (co_clean n m) l
  refine PC.intro tab_ok Tryz.func113 rfl (by kernel_rfl) Tryz.ntmps113 (Nat.le_of_ble_eq_true rfl) (rs := _) (congrArg Array.toList Tryz.results113) ?_
  (repeat (refine PW.go tab_ok [] fun K hK => ?_; simp only [go_sem, ↓reduceIte, reduceCtorEq, Nat.reduceBEq, Nat.reduceAdd, Nat.reduceMul, Nat.reduceSub, Nat.reduceLT, Nat.reduceLeDiff, Nat.reduceEqDiff]; (refine hK _ _ ?_; clear hK K)))
  refine PW.seq_k fun K0 hK0 => ?_
  refine PW.go tab_ok [] fun K hK => ?_
  simp only [go_sem, ↓reduceIte, reduceCtorEq, Nat.reduceBEq, Nat.reduceAdd, Nat.reduceMul, Nat.reduceSub, Nat.reduceLT, Nat.reduceLeDiff, Nat.reduceEqDiff]
  (refine hK _ _ ?_; (try clear hK); (try clear K))
  refine PW.cond_split (b := (l.length : Int) != (l.length : Int)) rfl ?_ ?_ <;> intro hb
  · simp at hb
  refine PW.skip (hK0 _ _ ?_); clear hK0 K0
  refine PW.seq_k fun K0 hK0 => ?_
  refine PW.go tab_ok [] fun K hK => ?_
  simp only [go_sem, ↓reduceIte, reduceCtorEq, Nat.reduceBEq, Nat.reduceAdd, Nat.reduceMul, Nat.reduceSub, Nat.reduceLT, Nat.reduceLeDiff, Nat.reduceEqDiff]
  (refine hK _ _ ?_; (try clear hK); (try clear K))
  refine PW.block (PW.loop (α := Nat) (fun k => [(5, .int .i64 (k : Int)), (0, .list 4 (l.map coPV) .no), (1, .list 4 (l.map coPV) .no)]) (fun _ => ⟨[], []⟩)
    (fun k => k ≤ l.length) (fun k => l.length - k) 0 (Nat.zero_le _) ?_ rfl (fun _ _ => ⟨rfl, rfl⟩) ?_)
  · simp [Sub, eget]
  rintro k hk
  refine PW.seq_k fun K2 hK2 => ?_
  refine PW.go tab_ok [] fun K hK => ?_
  simp only [go_sem, ↓reduceIte, reduceCtorEq, Nat.reduceBEq, Nat.reduceAdd, Nat.reduceMul, Nat.reduceSub, Nat.reduceLT, Nat.reduceLeDiff, Nat.reduceEqDiff]
  (refine hK _ _ ?_; (try clear hK); (try clear K))
  refine PW.cond_split (b := decide ((k : Int) < (l.length : Int))) rfl ?_ ?_ <;> intro hc
  · have hlt : k < l.length := by simpa using hc
    have h0 : (0 : Int) ≤ (k : Int) := by omega
    obtain ⟨x, hx⟩ : ∃ x, l[k]? = some x := ⟨l[k], List.getElem?_eq_getElem hlt⟩
    have hg : (l.map coPV)[k]? = some (coPV x) := by rw [List.getElem?_map, hx]; rfl
    refine PW.skip (hK2 _ _ ?_)
    clear hK2
    refine PW.seq_k fun K3 hK3 => PW.block ?_
    refine PW.draws tab_ok mixed [] [(0, []), (1, []), (2, []), (3, []), (4, []), (5, []), (6, []), (7, []), (8, [])] (by kernel_rfl) fun K hK => ?_
    simp only [h0, Int.toNat_natCast, hg, coPV, eqCells, coSelf, go_sem, ↓reduceIte, reduceCtorEq, Nat.reduceBEq, Nat.reduceAdd, Nat.reduceMul, Nat.reduceSub, Nat.reduceLT, Nat.reduceLeDiff, Nat.reduceEqDiff]
    (refine hK _ _ ?_; (try clear hK); (try clear K))
    refine PW.cond_split (b := false) rfl ?_ ?_ <;> intro hb2
    · cases hb2
    · refine PW.skip (hK3 _ _ ?_)
      have hw : IntKind.i64.wrap ((k : Int) + 1) = ((k + 1 : Nat) : Int) := by
        rw [show (k : Int) + 1 = ((k + 1 : Nat) : Int) from by omega]
        exact wrap_nat (by omega)
      refine PW.goL tab_ok [] fun K hK => ?_
      simp only [go_sem, ↓reduceIte, reduceCtorEq, Nat.reduceBEq, Nat.reduceAdd, Nat.reduceMul, Nat.reduceSub, Nat.reduceLT, Nat.reduceLeDiff, Nat.reduceEqDiff]
      (refine hK _ _ ?_; (try clear hK); (try clear K))
      exact ⟨k + 1, by omega, by omega, by simp [Sub, eget, hw], ⟨by simp, rfl, by simp⟩, by simp [Env.clean, PV.clean, hcl]⟩
  · refine PW.exit (hK0 _ _ ?_)
    (repeat (refine PW.go tab_ok [] fun K hK => ?_; simp only [go_sem, ↓reduceIte, reduceCtorEq, Nat.reduceBEq, Nat.reduceAdd, Nat.reduceMul, Nat.reduceSub, Nat.reduceLT, Nat.reduceLeDiff, Nat.reduceEqDiff]; (refine hK _ _ ?_; clear hK K)))
    exact PW.ret (Pure.ret rfl rfl rfl)
theorem rowSame_pc {l : List Vl} (hl : l.length ≤ 1000000000000000) :
    Pure Tryz.prog 167 [.list 3 (l.map vPV) .no, .list 3 (l.map vPV) .no] (.bool true) := by
  have hcl : ∀ n m, PVs.clean n m (l.map vPV) = true := fun n m => clean_map (v_clean n m) l
  refine PC.intro tab_ok Tryz.func167 rfl (by kernel_rfl) Tryz.ntmps167 (Nat.le_of_ble_eq_true rfl) (rs := _) (congrArg Array.toList Tryz.results167) ?_
  (repeat (refine PW.go tab_ok [] fun K hK => ?_; simp only [go_sem, ↓reduceIte, reduceCtorEq, Nat.reduceBEq, Nat.reduceAdd, Nat.reduceMul, Nat.reduceSub, Nat.reduceLT, Nat.reduceLeDiff, Nat.reduceEqDiff]; (refine hK _ _ ?_; clear hK K)))
  refine PW.seq_k fun K0 hK0 => ?_
  refine PW.go tab_ok [] fun K hK => ?_
  simp only [go_sem, ↓reduceIte, reduceCtorEq, Nat.reduceBEq, Nat.reduceAdd, Nat.reduceMul, Nat.reduceSub, Nat.reduceLT, Nat.reduceLeDiff, Nat.reduceEqDiff]
  (refine hK _ _ ?_; (try clear hK); (try clear K))
  refine PW.cond_split (b := (l.length : Int) != (l.length : Int)) rfl ?_ ?_ <;> intro hb
  · simp at hb
  refine PW.skip (hK0 _ _ ?_); clear hK0 K0
  refine PW.seq_k fun K0 hK0 => ?_
  refine PW.go tab_ok [] fun K hK => ?_
  simp only [go_sem, ↓reduceIte, reduceCtorEq, Nat.reduceBEq, Nat.reduceAdd, Nat.reduceMul, Nat.reduceSub, Nat.reduceLT, Nat.reduceLeDiff, Nat.reduceEqDiff]
  (refine hK _ _ ?_; (try clear hK); (try clear K))
  refine PW.block (PW.loop (α := Nat) (fun k => [(5, .int .i64 (k : Int)), (0, .list 3 (l.map vPV) .no), (1, .list 3 (l.map vPV) .no)]) (fun _ => ⟨[], []⟩)
    (fun k => k ≤ l.length) (fun k => l.length - k) 0 (Nat.zero_le _) ?_ rfl (fun _ _ => ⟨rfl, rfl⟩) ?_)
  · simp [Sub, eget]
  rintro k hk
  refine PW.seq_k fun K2 hK2 => ?_
  refine PW.go tab_ok [] fun K hK => ?_
  simp only [go_sem, ↓reduceIte, reduceCtorEq, Nat.reduceBEq, Nat.reduceAdd, Nat.reduceMul, Nat.reduceSub, Nat.reduceLT, Nat.reduceLeDiff, Nat.reduceEqDiff]
  (refine hK _ _ ?_; (try clear hK); (try clear K))
  refine PW.cond_split (b := decide ((k : Int) < (l.length : Int))) rfl ?_ ?_ <;> intro hc
  · have hlt : k < l.length := by simpa using hc
    have h0 : (0 : Int) ≤ (k : Int) := by omega
    obtain ⟨x, hx⟩ : ∃ x, l[k]? = some x := ⟨l[k], List.getElem?_eq_getElem hlt⟩
    have hg : (l.map vPV)[k]? = some (vPV x) := by rw [List.getElem?_map, hx]; rfl
    refine PW.skip (hK2 _ _ ?_)
    clear hK2
    refine PW.seq_k fun K3 hK3 => PW.block ?_
    refine PW.draws tab_ok mixed [] [(0, []), (1, []), (2, []), (3, []), (4, []), (5, []), (6, []), (7, []), (8, [])] (by kernel_rfl) fun K hK => ?_
    simp only [h0, Int.toNat_natCast, hg, vPV, vC, eqCells, vlSelf, go_sem, ↓reduceIte, reduceCtorEq, Nat.reduceBEq, Nat.reduceAdd, Nat.reduceMul, Nat.reduceSub, Nat.reduceLT, Nat.reduceLeDiff, Nat.reduceEqDiff]
    (refine hK _ _ ?_; (try clear hK); (try clear K))
    refine PW.cond_split (b := false) rfl ?_ ?_ <;> intro hb2
    · cases hb2
    · refine PW.skip (hK3 _ _ ?_)
      have hw : IntKind.i64.wrap ((k : Int) + 1) = ((k + 1 : Nat) : Int) := by
        rw [show (k : Int) + 1 = ((k + 1 : Nat) : Int) from by omega]
        exact wrap_nat (by omega)
      refine PW.goL tab_ok [] fun K hK => ?_
      simp only [go_sem, ↓reduceIte, reduceCtorEq, Nat.reduceBEq, Nat.reduceAdd, Nat.reduceMul, Nat.reduceSub, Nat.reduceLT, Nat.reduceLeDiff, Nat.reduceEqDiff]
      (refine hK _ _ ?_; (try clear hK); (try clear K))
      exact ⟨k + 1, by omega, by omega, by simp [Sub, eget, hw], ⟨by simp, rfl, by simp⟩, by simp [Env.clean, PV.clean, hcl]⟩
  · refine PW.exit (hK0 _ _ ?_)
    (repeat (refine PW.go tab_ok [] fun K hK => ?_; simp only [go_sem, ↓reduceIte, reduceCtorEq, Nat.reduceBEq, Nat.reduceAdd, Nat.reduceMul, Nat.reduceSub, Nat.reduceLT, Nat.reduceLeDiff, Nat.reduceEqDiff]; (refine hK _ _ ?_; clear hK K)))
    exact PW.ret (Pure.ret rfl rfl rfl)
theorem rowsSame_pc {l : List (List Vl)} (h : ∀ r ∈ l, r.length ≤ 1000000000000000) (hl : l.length ≤ 1000000000000000) :
    Pure Tryz.prog 114 [.list 1 (l.map rowPV) .no, .list 1 (l.map rowPV) .no] (.bool true) := by
  have hcl : ∀ n m, PVs.clean n m (l.map rowPV) = true := fun n m => clean_map (row_clean n m) l
  refine PC.intro tab_ok Tryz.func114 rfl (by kernel_rfl) Tryz.ntmps114 (Nat.le_of_ble_eq_true rfl) (rs := _) (congrArg Array.toList Tryz.results114) ?_
  (repeat (refine PW.go tab_ok [] fun K hK => ?_; simp only [go_sem, ↓reduceIte, reduceCtorEq, Nat.reduceBEq, Nat.reduceAdd, Nat.reduceMul, Nat.reduceSub, Nat.reduceLT, Nat.reduceLeDiff, Nat.reduceEqDiff]; (refine hK _ _ ?_; clear hK K)))
  refine PW.seq_k fun K0 hK0 => ?_
  refine PW.go tab_ok [] fun K hK => ?_
  simp only [go_sem, ↓reduceIte, reduceCtorEq, Nat.reduceBEq, Nat.reduceAdd, Nat.reduceMul, Nat.reduceSub, Nat.reduceLT, Nat.reduceLeDiff, Nat.reduceEqDiff]
  (refine hK _ _ ?_; (try clear hK); (try clear K))
  refine PW.cond_split (b := (l.length : Int) != (l.length : Int)) rfl ?_ ?_ <;> intro hb
  · simp at hb
  refine PW.skip (hK0 _ _ ?_); clear hK0 K0
  refine PW.seq_k fun K0 hK0 => ?_
  refine PW.go tab_ok [] fun K hK => ?_
  simp only [go_sem, ↓reduceIte, reduceCtorEq, Nat.reduceBEq, Nat.reduceAdd, Nat.reduceMul, Nat.reduceSub, Nat.reduceLT, Nat.reduceLeDiff, Nat.reduceEqDiff]
  (refine hK _ _ ?_; (try clear hK); (try clear K))
  refine PW.block (PW.loop (α := Nat) (fun k => [(5, .int .i64 (k : Int)), (0, .list 1 (l.map rowPV) .no), (1, .list 1 (l.map rowPV) .no)]) (fun _ => ⟨[], []⟩)
    (fun k => k ≤ l.length) (fun k => l.length - k) 0 (Nat.zero_le _) ?_ rfl (fun _ _ => ⟨rfl, rfl⟩) ?_)
  · simp [Sub, eget]
  rintro k hk
  refine PW.seq_k fun K2 hK2 => ?_
  refine PW.go tab_ok [] fun K hK => ?_
  simp only [go_sem, ↓reduceIte, reduceCtorEq, Nat.reduceBEq, Nat.reduceAdd, Nat.reduceMul, Nat.reduceSub, Nat.reduceLT, Nat.reduceLeDiff, Nat.reduceEqDiff]
  (refine hK _ _ ?_; (try clear hK); (try clear K))
  refine PW.cond_split (b := decide ((k : Int) < (l.length : Int))) rfl ?_ ?_ <;> intro hc
  · have hlt : k < l.length := by simpa using hc
    have h0 : (0 : Int) ≤ (k : Int) := by omega
    obtain ⟨x, hx⟩ : ∃ x, l[k]? = some x := ⟨l[k], List.getElem?_eq_getElem hlt⟩
    have hg : (l.map rowPV)[k]? = some (rowPV x) := by rw [List.getElem?_map, hx]; rfl
    refine PW.skip (hK2 _ _ ?_)
    clear hK2
    refine PW.seq_k fun K3 hK3 => PW.block ?_
    refine PW.draws tab_ok mixed [] [(0, []), (1, []), (2, []), (3, []), (4, []), (5, []), (6, []), (7, []), (8, []), (9, [])] (by kernel_rfl) fun K hK => ?_
    simp only [h0, Int.toNat_natCast, hg, rowPV, go_sem, ↓reduceIte, reduceCtorEq, Nat.reduceBEq, Nat.reduceAdd, Nat.reduceMul, Nat.reduceSub, Nat.reduceLT, Nat.reduceLeDiff, Nat.reduceEqDiff]
    refine (rowSame_pc (h x (List.mem_of_getElem? hx))).use (Weaks.refl _) (by simp [PVs.clean, PV.clean, clean_map (v_clean 0 0)]) rfl ?_
    refine GO.go tab_ok ?_
    simp only [go_sem, ↓reduceIte, reduceCtorEq, Nat.reduceBEq, Nat.reduceAdd, Nat.reduceMul, Nat.reduceSub, Nat.reduceLT, Nat.reduceLeDiff, Nat.reduceEqDiff]
    (refine hK _ _ ?_; (try clear hK); (try clear K))
    refine PW.go tab_ok [] fun K hK => ?_
    simp only [go_sem, ↓reduceIte, reduceCtorEq, Nat.reduceBEq, Nat.reduceAdd, Nat.reduceMul, Nat.reduceSub, Nat.reduceLT, Nat.reduceLeDiff, Nat.reduceEqDiff]
    (refine hK _ _ ?_; (try clear hK); (try clear K))
    refine PW.cond_split (b := false) rfl ?_ ?_ <;> intro hb2
    · cases hb2
    · refine PW.skip (hK3 _ _ ?_)
      have hw : IntKind.i64.wrap ((k : Int) + 1) = ((k + 1 : Nat) : Int) := by
        rw [show (k : Int) + 1 = ((k + 1 : Nat) : Int) from by omega]
        exact wrap_nat (by omega)
      refine PW.goL tab_ok [] fun K hK => ?_
      simp only [go_sem, ↓reduceIte, reduceCtorEq, Nat.reduceBEq, Nat.reduceAdd, Nat.reduceMul, Nat.reduceSub, Nat.reduceLT, Nat.reduceLeDiff, Nat.reduceEqDiff]
      (refine hK _ _ ?_; (try clear hK); (try clear K))
      exact ⟨k + 1, by omega, by omega, by simp [Sub, eget, hw], ⟨by simp, rfl, by simp⟩, by simp [Env.clean, PV.clean, hcl]⟩
  · refine PW.exit (hK0 _ _ ?_)
    (repeat (refine PW.go tab_ok [] fun K hK => ?_; simp only [go_sem, ↓reduceIte, reduceCtorEq, Nat.reduceBEq, Nat.reduceAdd, Nat.reduceMul, Nat.reduceSub, Nat.reduceLT, Nat.reduceLeDiff, Nat.reduceEqDiff]; (refine hK _ _ ?_; clear hK K)))
    exact PW.ret (Pure.ret rfl rfl rfl)
theorem setsSame_pc {l : List SetX} (h : ∀ s ∈ l, Pure Tryz.prog 14 [exPV s.e, exPV s.e] (.bool true)) (hl : l.length ≤ 1000000000000000) :
    Pure Tryz.prog 115 [.list 9 (l.map sePV) .no, .list 9 (l.map sePV) .no] (.bool true) := by
  have hcl : ∀ n m, PVs.clean n m (l.map sePV) = true := fun n m => clean_map (se_clean n m) l
  refine PC.intro tab_ok Tryz.func115 rfl (by kernel_rfl) Tryz.ntmps115 (Nat.le_of_ble_eq_true rfl) (rs := _) (congrArg Array.toList Tryz.results115) ?_
  (repeat (refine PW.go tab_ok [] fun K hK => ?_; simp only [go_sem, ↓reduceIte, reduceCtorEq, Nat.reduceBEq, Nat.reduceAdd, Nat.reduceMul, Nat.reduceSub, Nat.reduceLT, Nat.reduceLeDiff, Nat.reduceEqDiff]; (refine hK _ _ ?_; clear hK K)))
  refine PW.seq_k fun K0 hK0 => ?_
  refine PW.go tab_ok [] fun K hK => ?_
  simp only [go_sem, ↓reduceIte, reduceCtorEq, Nat.reduceBEq, Nat.reduceAdd, Nat.reduceMul, Nat.reduceSub, Nat.reduceLT, Nat.reduceLeDiff, Nat.reduceEqDiff]
  (refine hK _ _ ?_; (try clear hK); (try clear K))
  refine PW.cond_split (b := (l.length : Int) != (l.length : Int)) rfl ?_ ?_ <;> intro hb
  · simp at hb
  refine PW.skip (hK0 _ _ ?_); clear hK0 K0
  refine PW.seq_k fun K0 hK0 => ?_
  refine PW.go tab_ok [] fun K hK => ?_
  simp only [go_sem, ↓reduceIte, reduceCtorEq, Nat.reduceBEq, Nat.reduceAdd, Nat.reduceMul, Nat.reduceSub, Nat.reduceLT, Nat.reduceLeDiff, Nat.reduceEqDiff]
  (refine hK _ _ ?_; (try clear hK); (try clear K))
  refine PW.block (PW.loop (α := Nat) (fun k => [(5, .int .i64 (k : Int)), (0, .list 9 (l.map sePV) .no), (1, .list 9 (l.map sePV) .no)]) (fun _ => ⟨[], []⟩)
    (fun k => k ≤ l.length) (fun k => l.length - k) 0 (Nat.zero_le _) ?_ rfl (fun _ _ => ⟨rfl, rfl⟩) ?_)
  · simp [Sub, eget]
  rintro k hk
  refine PW.seq_k fun K2 hK2 => ?_
  refine PW.go tab_ok [] fun K hK => ?_
  simp only [go_sem, ↓reduceIte, reduceCtorEq, Nat.reduceBEq, Nat.reduceAdd, Nat.reduceMul, Nat.reduceSub, Nat.reduceLT, Nat.reduceLeDiff, Nat.reduceEqDiff]
  (refine hK _ _ ?_; (try clear hK); (try clear K))
  refine PW.cond_split (b := decide ((k : Int) < (l.length : Int))) rfl ?_ ?_ <;> intro hc
  · have hlt : k < l.length := by simpa using hc
    have h0 : (0 : Int) ≤ (k : Int) := by omega
    obtain ⟨x, hx⟩ : ∃ x, l[k]? = some x := ⟨l[k], List.getElem?_eq_getElem hlt⟩
    have hg : (l.map sePV)[k]? = some (sePV x) := by rw [List.getElem?_map, hx]; rfl
    refine PW.skip (hK2 _ _ ?_)
    clear hK2
    refine PW.seq_k fun K3 hK3 => PW.block ?_
    refine PW.draws tab_ok mixed [] [(0, []), (1, []), (2, []), (3, []), (4, []), (5, []), (6, []), (7, []), (8, []), (9, []), (10, []), (11, [])] (by kernel_rfl) fun K hK => ?_
    simp only [h0, Int.toNat_natCast, hg, sePV, go_sem, ↓reduceIte, reduceCtorEq, Nat.reduceBEq, Nat.reduceAdd, Nat.reduceMul, Nat.reduceSub, Nat.reduceLT, Nat.reduceLeDiff, Nat.reduceEqDiff]
    refine (h x (List.mem_of_getElem? hx)).use (Weaks.refl _) (by simp [PVs.clean, exPV_clean]) rfl ?_
    refine GO.go tab_ok ?_
    simp only [go_sem, ↓reduceIte, reduceCtorEq, Nat.reduceBEq, Nat.reduceAdd, Nat.reduceMul, Nat.reduceSub, Nat.reduceLT, Nat.reduceLeDiff, Nat.reduceEqDiff]
    (refine hK _ _ ?_; (try clear hK); (try clear K))
    refine PW.draws tab_ok mixed [] [(0, []), (1, []), (2, []), (3, []), (4, []), (5, []), (6, []), (7, []), (8, []), (9, []), (10, []), (11, []), (12, []), (13, []), (14, [])] (by kernel_rfl) fun K hK => ?_
    simp only [h0, Int.toNat_natCast, hg, sePV, go_sem, ↓reduceIte, reduceCtorEq, Nat.reduceBEq, Nat.reduceAdd, Nat.reduceMul, Nat.reduceSub, Nat.reduceLT, Nat.reduceLeDiff, Nat.reduceEqDiff]
    (refine hK _ _ ?_; (try clear hK); (try clear K))
    refine PW.cond_split (b := false) rfl ?_ ?_ <;> intro hb2
    · cases hb2
    · refine PW.skip (hK3 _ _ ?_)
      have hw : IntKind.i64.wrap ((k : Int) + 1) = ((k + 1 : Nat) : Int) := by
        rw [show (k : Int) + 1 = ((k + 1 : Nat) : Int) from by omega]
        exact wrap_nat (by omega)
      refine PW.goL tab_ok [] fun K hK => ?_
      simp only [go_sem, ↓reduceIte, reduceCtorEq, Nat.reduceBEq, Nat.reduceAdd, Nat.reduceMul, Nat.reduceSub, Nat.reduceLT, Nat.reduceLeDiff, Nat.reduceEqDiff]
      (refine hK _ _ ?_; (try clear hK); (try clear K))
      exact ⟨k + 1, by omega, by omega, by simp [Sub, eget, hw], ⟨by simp, rfl, by simp⟩, by simp [Env.clean, PV.clean, hcl]⟩
  · refine PW.exit (hK0 _ _ ?_)
    (repeat (refine PW.go tab_ok [] fun K hK => ?_; simp only [go_sem, ↓reduceIte, reduceCtorEq, Nat.reduceBEq, Nat.reduceAdd, Nat.reduceMul, Nat.reduceSub, Nat.reduceLT, Nat.reduceLeDiff, Nat.reduceEqDiff]; (refine hK _ _ ?_; clear hK K)))
    exact PW.ret (Pure.ret rfl rfl rfl)
theorem itemsSame_pc {l : List Itm} (h : ∀ s ∈ l, Pure Tryz.prog 30 [exsPV s.l, exsPV s.l] (.bool true)) (hl : l.length ≤ 1000000000000000) :
    Pure Tryz.prog 116 [.list 2 (l.map itPV) .no, .list 2 (l.map itPV) .no] (.bool true) := by
  have hcl : ∀ n m, PVs.clean n m (l.map itPV) = true := fun n m => clean_map (it_clean n m) l
  refine PC.intro tab_ok Tryz.func116 rfl (by kernel_rfl) Tryz.ntmps116 (Nat.le_of_ble_eq_true rfl) (rs := _) (congrArg Array.toList Tryz.results116) ?_
  (repeat (refine PW.go tab_ok [] fun K hK => ?_; simp only [go_sem, ↓reduceIte, reduceCtorEq, Nat.reduceBEq, Nat.reduceAdd, Nat.reduceMul, Nat.reduceSub, Nat.reduceLT, Nat.reduceLeDiff, Nat.reduceEqDiff]; (refine hK _ _ ?_; clear hK K)))
  refine PW.seq_k fun K0 hK0 => ?_
  refine PW.go tab_ok [] fun K hK => ?_
  simp only [go_sem, ↓reduceIte, reduceCtorEq, Nat.reduceBEq, Nat.reduceAdd, Nat.reduceMul, Nat.reduceSub, Nat.reduceLT, Nat.reduceLeDiff, Nat.reduceEqDiff]
  (refine hK _ _ ?_; (try clear hK); (try clear K))
  refine PW.cond_split (b := (l.length : Int) != (l.length : Int)) rfl ?_ ?_ <;> intro hb
  · simp at hb
  refine PW.skip (hK0 _ _ ?_); clear hK0 K0
  refine PW.seq_k fun K0 hK0 => ?_
  refine PW.go tab_ok [] fun K hK => ?_
  simp only [go_sem, ↓reduceIte, reduceCtorEq, Nat.reduceBEq, Nat.reduceAdd, Nat.reduceMul, Nat.reduceSub, Nat.reduceLT, Nat.reduceLeDiff, Nat.reduceEqDiff]
  (refine hK _ _ ?_; (try clear hK); (try clear K))
  refine PW.block (PW.loop (α := Nat) (fun k => [(5, .int .i64 (k : Int)), (0, .list 2 (l.map itPV) .no), (1, .list 2 (l.map itPV) .no)]) (fun _ => ⟨[], []⟩)
    (fun k => k ≤ l.length) (fun k => l.length - k) 0 (Nat.zero_le _) ?_ rfl (fun _ _ => ⟨rfl, rfl⟩) ?_)
  · simp [Sub, eget]
  rintro k hk
  refine PW.seq_k fun K2 hK2 => ?_
  refine PW.go tab_ok [] fun K hK => ?_
  simp only [go_sem, ↓reduceIte, reduceCtorEq, Nat.reduceBEq, Nat.reduceAdd, Nat.reduceMul, Nat.reduceSub, Nat.reduceLT, Nat.reduceLeDiff, Nat.reduceEqDiff]
  (refine hK _ _ ?_; (try clear hK); (try clear K))
  refine PW.cond_split (b := decide ((k : Int) < (l.length : Int))) rfl ?_ ?_ <;> intro hc
  · have hlt : k < l.length := by simpa using hc
    have h0 : (0 : Int) ≤ (k : Int) := by omega
    obtain ⟨x, hx⟩ : ∃ x, l[k]? = some x := ⟨l[k], List.getElem?_eq_getElem hlt⟩
    have hg : (l.map itPV)[k]? = some (itPV x) := by rw [List.getElem?_map, hx]; rfl
    refine PW.skip (hK2 _ _ ?_)
    clear hK2
    refine PW.seq_k fun K3 hK3 => PW.block ?_
    refine PW.draws tab_ok mixed [] [(0, []), (1, []), (2, []), (3, []), (4, []), (5, []), (6, []), (7, []), (8, []), (9, []), (10, []), (11, [])] (by kernel_rfl) fun K hK => ?_
    simp only [h0, Int.toNat_natCast, hg, itPV, exsPV, go_sem, ↓reduceIte, reduceCtorEq, Nat.reduceBEq, Nat.reduceAdd, Nat.reduceMul, Nat.reduceSub, Nat.reduceLT, Nat.reduceLeDiff, Nat.reduceEqDiff]
    refine (h x (List.mem_of_getElem? hx)).use (Weaks.refl _) (by simp [PVs.clean, exsPV_clean]) rfl ?_
    refine GO.go tab_ok ?_
    simp only [go_sem, ↓reduceIte, reduceCtorEq, Nat.reduceBEq, Nat.reduceAdd, Nat.reduceMul, Nat.reduceSub, Nat.reduceLT, Nat.reduceLeDiff, Nat.reduceEqDiff]
    (refine hK _ _ ?_; (try clear hK); (try clear K))
    refine PW.draws tab_ok mixed [] [(0, []), (1, []), (2, []), (3, []), (4, []), (5, []), (6, []), (7, []), (8, []), (9, []), (10, []), (11, []), (12, []), (13, []), (14, [])] (by kernel_rfl) fun K hK => ?_
    simp only [h0, Int.toNat_natCast, hg, itPV, bne_self_eq_false, go_sem, ↓reduceIte, reduceCtorEq, Nat.reduceBEq, Nat.reduceAdd, Nat.reduceMul, Nat.reduceSub, Nat.reduceLT, Nat.reduceLeDiff, Nat.reduceEqDiff]
    (refine hK _ _ ?_; (try clear hK); (try clear K))
    refine PW.cond_split (b := false) rfl ?_ ?_ <;> intro hb2
    · cases hb2
    · refine PW.skip (hK3 _ _ ?_)
      have hw : IntKind.i64.wrap ((k : Int) + 1) = ((k + 1 : Nat) : Int) := by
        rw [show (k : Int) + 1 = ((k + 1 : Nat) : Int) from by omega]
        exact wrap_nat (by omega)
      refine PW.goL tab_ok [] fun K hK => ?_
      simp only [go_sem, ↓reduceIte, reduceCtorEq, Nat.reduceBEq, Nat.reduceAdd, Nat.reduceMul, Nat.reduceSub, Nat.reduceLT, Nat.reduceLeDiff, Nat.reduceEqDiff]
      (refine hK _ _ ?_; (try clear hK); (try clear K))
      exact ⟨k + 1, by omega, by omega, by simp [Sub, eget, hw], ⟨by simp, rfl, by simp⟩, by simp [Env.clean, PV.clean, hcl]⟩
  · refine PW.exit (hK0 _ _ ?_)
    (repeat (refine PW.go tab_ok [] fun K hK => ?_; simp only [go_sem, ↓reduceIte, reduceCtorEq, Nat.reduceBEq, Nat.reduceAdd, Nat.reduceMul, Nat.reduceSub, Nat.reduceLT, Nat.reduceLeDiff, Nat.reduceEqDiff]; (refine hK _ _ ?_; clear hK K)))
    exact PW.ret (Pure.ret rfl rfl rfl)
def FewL (l : List Ex) : Prop := l.length ≤ 1000000000000000 ∧ Exs.few 1000000000000000 l = true
/-- Few enough in each row. -/
structure FewS (s : Stm) : Prop where
  cols : s.cols.length ≤ 1000000000000000
  rows : s.rows.length ≤ 1000000000000000
  row : ∀ r ∈ s.rows, r.length ≤ 1000000000000000
  sets : s.sets.length ≤ 1000000000000000
  items : s.items.length ≤ 1000000000000000
  se : ∀ x ∈ s.sets, Ex.few 1000000000000000 x.e = true
  it : ∀ x ∈ s.items, FewL x.l
  on : FewL s.on
  wh : FewL s.wh
  gr : FewL s.gr
  od : FewL s.od
theorem sameRefl_pc {e : Ex} (h : Ex.few 1000000000000000 e = true) : Pure Tryz.prog 14 [exPV e, exPV e] (.bool true) := by
  have := same_pc e e h
  rwa [sameM_refl] at this
theorem samesRefl_pc {l : List Ex} (h : FewL l) : Pure Tryz.prog 30 [exsPV l, exsPV l] (.bool true) := by
  have := sames_pc l l h.2 h.1
  rwa [samesM_refl] at this
set_option maxRecDepth 100000 in
set_option maxHeartbeats 2000000 in
theorem stSame_pc {s : Stm} (h : FewS s) : Pure Tryz.prog 47 [stPV1 s, stPV1 s] (.bool true) := by
  have p1 := colsSame_pc h.cols
  have p2 := rowsSame_pc h.row h.rows
  have p3 := setsSame_pc (l := s.sets) (fun x hx => sameRefl_pc (h.se x hx)) h.sets
  have p4 := itemsSame_pc (l := s.items) (fun x hx => samesRefl_pc (h.it x hx)) h.items
  have p5 := samesRefl_pc h.on
  have p6 := samesRefl_pc h.wh
  have p7 := samesRefl_pc h.gr
  have p8 := samesRefl_pc h.od
  have c1 := fun n m => clean_map (co_clean n m) s.cols
  have c2 := fun n m => clean_map (row_clean n m) s.rows
  have c3 := fun n m => clean_map (se_clean n m) s.sets
  have c4 := fun n m => clean_map (it_clean n m) s.items
  unfold exsPV at p5 p6 p7 p8
  unfold stPV1 stC
  refine PC.intro tab_ok Tryz.func47 rfl (by kernel_rfl) Tryz.ntmps47 (Nat.le_of_ble_eq_true rfl) (rs := _) (congrArg Array.toList Tryz.results47) ?_
  refine PW.go tab_ok [] fun K hK => ?_
  simp only [go_sem, ↓reduceIte, reduceCtorEq, Nat.reduceBEq, Nat.reduceAdd, Nat.reduceMul, Nat.reduceSub, Nat.reduceLT, Nat.reduceLeDiff, Nat.reduceEqDiff]
  (refine hK _ _ ?_; (try clear hK); (try clear K))
  refine PW.go tab_ok [] fun K hK => ?_
  simp only [beq_self_eq_true, go_sem, ↓reduceIte, reduceCtorEq, Nat.reduceBEq, Nat.reduceAdd, Nat.reduceMul, Nat.reduceSub, Nat.reduceLT, Nat.reduceLeDiff, Nat.reduceEqDiff]
  (refine hK _ _ ?_; (try clear hK); (try clear K))
  refine PW.go tab_ok [] fun K hK => ?_
  simp only [go_sem, ↓reduceIte, reduceCtorEq, Nat.reduceBEq, Nat.reduceAdd, Nat.reduceMul, Nat.reduceSub, Nat.reduceLT, Nat.reduceLeDiff, Nat.reduceEqDiff]
  refine p1.use (Weaks.refl _) (by simp [PVs.clean, PV.clean, c1]) rfl ?_
  refine PO.go tab_ok [] ?_
  simp only [go_sem, ↓reduceIte, reduceCtorEq, Nat.reduceBEq, Nat.reduceAdd, Nat.reduceMul, Nat.reduceSub, Nat.reduceLT, Nat.reduceLeDiff, Nat.reduceEqDiff]
  refine p2.use (Weaks.refl _) (by simp [PVs.clean, PV.clean, c2]) rfl ?_
  refine PO.go tab_ok [] ?_
  simp only [go_sem, ↓reduceIte, reduceCtorEq, Nat.reduceBEq, Nat.reduceAdd, Nat.reduceMul, Nat.reduceSub, Nat.reduceLT, Nat.reduceLeDiff, Nat.reduceEqDiff]
  refine p3.use (Weaks.refl _) (by simp [PVs.clean, PV.clean, c3]) rfl ?_
  refine PO.go tab_ok [] ?_
  simp only [go_sem, ↓reduceIte, reduceCtorEq, Nat.reduceBEq, Nat.reduceAdd, Nat.reduceMul, Nat.reduceSub, Nat.reduceLT, Nat.reduceLeDiff, Nat.reduceEqDiff]
  refine p4.use (Weaks.refl _) (by simp [PVs.clean, PV.clean, c4]) rfl ?_
  refine PO.go tab_ok [] ?_
  simp only [go_sem, ↓reduceIte, reduceCtorEq, Nat.reduceBEq, Nat.reduceAdd, Nat.reduceMul, Nat.reduceSub, Nat.reduceLT, Nat.reduceLeDiff, Nat.reduceEqDiff]
  (refine hK _ _ ?_; (try clear hK); (try clear K))
  refine PW.go tab_ok [] fun K hK => ?_
  simp only [go_sem, ↓reduceIte, reduceCtorEq, Nat.reduceBEq, Nat.reduceAdd, Nat.reduceMul, Nat.reduceSub, Nat.reduceLT, Nat.reduceLeDiff, Nat.reduceEqDiff]
  refine p5.use (Weaks.refl _) (by simp [PVs.clean, PV.clean, exs_clean]) rfl ?_
  refine PO.go tab_ok [] ?_
  simp only [go_sem, ↓reduceIte, reduceCtorEq, Nat.reduceBEq, Nat.reduceAdd, Nat.reduceMul, Nat.reduceSub, Nat.reduceLT, Nat.reduceLeDiff, Nat.reduceEqDiff]
  refine p6.use (Weaks.refl _) (by simp [PVs.clean, PV.clean, exs_clean]) rfl ?_
  refine PO.go tab_ok [] ?_
  simp only [go_sem, ↓reduceIte, reduceCtorEq, Nat.reduceBEq, Nat.reduceAdd, Nat.reduceMul, Nat.reduceSub, Nat.reduceLT, Nat.reduceLeDiff, Nat.reduceEqDiff]
  refine p7.use (Weaks.refl _) (by simp [PVs.clean, PV.clean, exs_clean]) rfl ?_
  refine PO.go tab_ok [] ?_
  simp only [go_sem, ↓reduceIte, reduceCtorEq, Nat.reduceBEq, Nat.reduceAdd, Nat.reduceMul, Nat.reduceSub, Nat.reduceLT, Nat.reduceLeDiff, Nat.reduceEqDiff]
  refine p8.use (Weaks.refl _) (by simp [PVs.clean, PV.clean, exs_clean]) rfl ?_
  refine PO.go tab_ok [] ?_
  simp only [go_sem, ↓reduceIte, reduceCtorEq, Nat.reduceBEq, Nat.reduceAdd, Nat.reduceMul, Nat.reduceSub, Nat.reduceLT, Nat.reduceLeDiff, Nat.reduceEqDiff]
  (refine hK _ _ ?_; (try clear hK); (try clear K))
  exact PW.ret (Pure.ret rfl rfl rfl)
theorem allSame_pc {l : List Stm} (h : ∀ s ∈ l, Pure Tryz.prog 47 [stPV1 s, stPV1 s] (.bool true)) (hl : l.length ≤ 1000000000000000) :
    Pure Tryz.prog 23 [.list 14 (l.map stPV1) .no, .list 14 (l.map stPV1) .no] (.bool true) := by
  have hcl : ∀ n m, PVs.clean n m (l.map stPV1) = true := fun n m => clean_map (stPV1_clean n m) l
  refine PC.intro tab_ok Tryz.func23 rfl (by kernel_rfl) Tryz.ntmps23 (Nat.le_of_ble_eq_true rfl) (rs := _) (congrArg Array.toList Tryz.results23) ?_
  (repeat (refine PW.go tab_ok [] fun K hK => ?_; simp only [go_sem, ↓reduceIte, reduceCtorEq, Nat.reduceBEq, Nat.reduceAdd, Nat.reduceMul, Nat.reduceSub, Nat.reduceLT, Nat.reduceLeDiff, Nat.reduceEqDiff]; (refine hK _ _ ?_; clear hK K)))
  refine PW.seq_k fun K0 hK0 => ?_
  refine PW.go tab_ok [] fun K hK => ?_
  simp only [go_sem, ↓reduceIte, reduceCtorEq, Nat.reduceBEq, Nat.reduceAdd, Nat.reduceMul, Nat.reduceSub, Nat.reduceLT, Nat.reduceLeDiff, Nat.reduceEqDiff]
  (refine hK _ _ ?_; (try clear hK); (try clear K))
  refine PW.cond_split (b := (l.length : Int) != (l.length : Int)) rfl ?_ ?_ <;> intro hb
  · simp at hb
  refine PW.skip (hK0 _ _ ?_); clear hK0 K0
  refine PW.seq_k fun K0 hK0 => ?_
  refine PW.go tab_ok [] fun K hK => ?_
  simp only [go_sem, ↓reduceIte, reduceCtorEq, Nat.reduceBEq, Nat.reduceAdd, Nat.reduceMul, Nat.reduceSub, Nat.reduceLT, Nat.reduceLeDiff, Nat.reduceEqDiff]
  (refine hK _ _ ?_; (try clear hK); (try clear K))
  refine PW.block (PW.loop (α := Nat) (fun k => [(5, .int .i64 (k : Int)), (0, .list 14 (l.map stPV1) .no), (1, .list 14 (l.map stPV1) .no)]) (fun _ => ⟨[], []⟩)
    (fun k => k ≤ l.length) (fun k => l.length - k) 0 (Nat.zero_le _) ?_ rfl (fun _ _ => ⟨rfl, rfl⟩) ?_)
  · simp [Sub, eget]
  rintro k hk
  refine PW.seq_k fun K2 hK2 => ?_
  refine PW.go tab_ok [] fun K hK => ?_
  simp only [go_sem, ↓reduceIte, reduceCtorEq, Nat.reduceBEq, Nat.reduceAdd, Nat.reduceMul, Nat.reduceSub, Nat.reduceLT, Nat.reduceLeDiff, Nat.reduceEqDiff]
  (refine hK _ _ ?_; (try clear hK); (try clear K))
  refine PW.cond_split (b := decide ((k : Int) < (l.length : Int))) rfl ?_ ?_ <;> intro hc
  · have hlt : k < l.length := by simpa using hc
    have h0 : (0 : Int) ≤ (k : Int) := by omega
    obtain ⟨x, hx⟩ : ∃ x, l[k]? = some x := ⟨l[k], List.getElem?_eq_getElem hlt⟩
    have hg : (l.map stPV1)[k]? = some (stPV1 x) := by rw [List.getElem?_map, hx]; rfl
    refine PW.skip (hK2 _ _ ?_)
    clear hK2
    refine PW.seq_k fun K3 hK3 => PW.block ?_
    refine PW.draws tab_ok mixed [] [(0, []), (1, []), (2, []), (3, []), (4, []), (5, []), (6, []), (7, []), (8, []), (9, [])] (by kernel_rfl) fun K hK => ?_
    simp only [h0, Int.toNat_natCast, hg, stPV1, stC, go_sem, ↓reduceIte, reduceCtorEq, Nat.reduceBEq, Nat.reduceAdd, Nat.reduceMul, Nat.reduceSub, Nat.reduceLT, Nat.reduceLeDiff, Nat.reduceEqDiff]
    refine (h x (List.mem_of_getElem? hx)).use (Weaks.refl _) (by simp [PVs.clean, stPV1_clean]) rfl ?_
    refine GO.go tab_ok ?_
    simp only [go_sem, ↓reduceIte, reduceCtorEq, Nat.reduceBEq, Nat.reduceAdd, Nat.reduceMul, Nat.reduceSub, Nat.reduceLT, Nat.reduceLeDiff, Nat.reduceEqDiff]
    (refine hK _ _ ?_; (try clear hK); (try clear K))
    refine PW.go tab_ok [] fun K hK => ?_
    simp only [go_sem, ↓reduceIte, reduceCtorEq, Nat.reduceBEq, Nat.reduceAdd, Nat.reduceMul, Nat.reduceSub, Nat.reduceLT, Nat.reduceLeDiff, Nat.reduceEqDiff]
    (refine hK _ _ ?_; (try clear hK); (try clear K))
    refine PW.cond_split (b := false) rfl ?_ ?_ <;> intro hb2
    · cases hb2
    · refine PW.skip (hK3 _ _ ?_)
      have hw : IntKind.i64.wrap ((k : Int) + 1) = ((k + 1 : Nat) : Int) := by
        rw [show (k : Int) + 1 = ((k + 1 : Nat) : Int) from by omega]
        exact wrap_nat (by omega)
      refine PW.goL tab_ok [] fun K hK => ?_
      simp only [go_sem, ↓reduceIte, reduceCtorEq, Nat.reduceBEq, Nat.reduceAdd, Nat.reduceMul, Nat.reduceSub, Nat.reduceLT, Nat.reduceLeDiff, Nat.reduceEqDiff]
      (refine hK _ _ ?_; (try clear hK); (try clear K))
      exact ⟨k + 1, by omega, by omega, by simp [Sub, eget, hw], ⟨by simp, rfl, by simp⟩, by simp [Env.clean, PV.clean, hcl]⟩
  · refine PW.exit (hK0 _ _ ?_)
    (repeat (refine PW.go tab_ok [] fun K hK => ?_; simp only [go_sem, ↓reduceIte, reduceCtorEq, Nat.reduceBEq, Nat.reduceAdd, Nat.reduceMul, Nat.reduceSub, Nat.reduceLT, Nat.reduceLeDiff, Nat.reduceEqDiff]; (refine hK _ _ ?_; clear hK K)))
    exact PW.ret (Pure.ret rfl rfl rfl)
end Go.Proofs.YtpepmfhemjeocaaGreatDoor
end
section
/- strings.Join; lex.Name; lex.Write. -/
set_option linter.unusedVariables false
set_option linter.unusedSimpArgs false
namespace Go.Proofs.YtpepmfhemjeocaaGreatDoor
open Go Go.Proofs Go.RowKit

theorem cellsOf_strs (xs : List Str) : cellsOf (strs xs) = strs xs := by
  induction xs with
  | nil => rfl
  | cons x xs ih => simp only [strs, List.map_cons, cellsOf_cons, PV.cells] at ih ⊢; rw [ih]; rfl
theorem join_pc {xs : List Str} (sep : Str) (hN : xs.length ≤ 140737488355328) (hlen : (Lib.join xs sep).length ≤ 140737488355328) :
    Pure Tryz.prog 41 [.list 1 (strs xs) .no, .str sep] (.str (Lib.join xs sep)) := by
  refine Pure.ofCalls (v := .string ⟨(Lib.join xs sep).toArray⟩) ⟨_, Tryz.func41, by kernel_rfl, by kernel_rfl⟩ (fun G => .str _) ?_
  intro G w vs hi hv
  cases hv with
  | cons _ _ _ _ h1 h2 =>
  cases h2 with
  | cons _ _ _ _ h2 h3 =>
  cases h2
  cases h3
  generalize hL : strs xs = ys at h1
  cases h1 with
  | none =>
    have : xs = [] := by simpa [strs] using hL
    subst this
    refine (Tryz.strings_Join_none none 0 _ w).mono ?_
    rintro e w' ⟨rfl, rfl⟩
    exact ⟨rfl, .refl _ _⟩
  | list _ _ _ b o c us ht hc hs h1 hv hd hk =>
    subst hL
    have hm : (xs.map fun l => (⟨l.toArray⟩ : ByteArray)).map (fun x => x.data.toList) = xs := by rw [List.map_map]; exact List.map_id'' (fun _ => rfl) xs
    have hl : (strs xs).length = (xs.map fun l => (⟨l.toArray⟩ : ByteArray)).length := by simp [strs]
    by_cases hx : xs = []
    · subst hx
      refine (Tryz.strings_Join_none (some ⟨b, o, none⟩) c _ w).mono ?_
      rintro e w' ⟨rfl, rfl⟩
      exact ⟨rfl, .refl _ _⟩
    have hcell : ∀ (j : Nat) (x : ByteArray), (xs.map fun l => (⟨l.toArray⟩ : ByteArray))[j]? = some x → (G.dat b)[o + j]? = some (.string x) := by
      intro j x hj
      rw [List.getElem?_map, Option.map_eq_some_iff] at hj
      obtain ⟨l, hl, rfl⟩ := hj
      rw [cellsOf_strs] at hv
      obtain ⟨v, hv1, hv2⟩ := hv.get j (.str l) (by simp [strs, hl])
      cases hv2
      obtain ⟨rest, hr⟩ := hd
      have : ((G.dat b).drop o)[j]? = some (.string ⟨l.toArray⟩) := by
        rw [← hr, List.getElem?_append_left]
        · exact hv1
        · exact (List.getElem?_eq_some_iff.1 hv1).1
      simpa using this
    obtain ⟨x0, hx0⟩ : ∃ x0, (xs.map fun l => (⟨l.toArray⟩ : ByteArray))[0]? = some x0 := by
      cases xs with
      | nil => exact absurd rfl hx
      | cons x _ => exact ⟨_, rfl⟩
    have hc' : (xs.map fun l => (⟨l.toArray⟩ : ByteArray)).length ≤ c := by rw [← hl]; exact hc
    have hj := Tryz.strings_Join b o c (xs.map fun l => ⟨l.toArray⟩) ⟨sep.toArray⟩ w (fun j x h => hi.dat b (o + j) _ (hcell j x h)) (hi.dat_lt (hcell 0 x0 hx0)) (by simpa using hN) hc' (by rw [hm]; exact hlen)
    rw [hm] at hj
    rw [hl]
    exact hj

/-! ### Names -/
theorem Name_pc (s : Str) : Pure Tryz.prog 49 [.str s] (.bool (nameB s)) := by
  cases s with
  | nil =>
    refine PC.intro tab_ok Tryz.func49 rfl (by kernel_rfl) Tryz.ntmps49 (Nat.le_of_ble_eq_true rfl) (rs := _) (congrArg Array.toList Tryz.results49) ?_
    (repeat (refine PW.go tab_ok [] fun K hK => ?_; simp only [go_sem, ↓reduceIte, reduceCtorEq, Nat.reduceBEq, Nat.reduceAdd, Nat.reduceMul, Nat.reduceSub, Nat.reduceLT, Nat.reduceLeDiff, Nat.reduceEqDiff]; (refine hK _ _ ?_; clear hK K)))
    exact PW.ret (Pure.ret rfl rfl rfl)
  | cons c r =>
    have hn : nameB (c :: r) = (decide ((c :: r).length ≤ 16) && firstB c && (rowN smallB (c :: r) == (c :: r).length)) := rfl
    have hne : ((c :: r) == []) = false := rfl
    have hget : (c :: r)[0]? = some c := rfl
    have hpos : 1 ≤ (c :: r).length := by simp
    generalize c :: r = s at hn hne hget hpos ⊢
    have h01 : (0 : Int) < (s.length : Int) := by omega
    refine PC.intro tab_ok Tryz.func49 rfl (by kernel_rfl) Tryz.ntmps49 (Nat.le_of_ble_eq_true rfl) (rs := _) (congrArg Array.toList Tryz.results49) ?_
    refine PW.go tab_ok [] fun K hK => ?_
    simp only [go_sem, ↓reduceIte, reduceCtorEq, Nat.reduceBEq, Nat.reduceAdd, Nat.reduceMul, Nat.reduceSub, Nat.reduceLT, Nat.reduceLeDiff, Nat.reduceEqDiff]
    (refine hK _ _ ?_; (try clear hK); (try clear K))
    refine PW.go tab_ok [] fun K hK => ?_
    cases h1 : decide ((s.length : Int) ≤ 16)
    · have : decide (s.length ≤ 16) = false := by simp at h1 ⊢; omega
      simp only [hne, h1, Bool.not_false, go_sem, ↓reduceIte, reduceCtorEq, Nat.reduceBEq, Nat.reduceAdd, Nat.reduceMul, Nat.reduceSub, Nat.reduceLT, Nat.reduceLeDiff, Nat.reduceEqDiff]
      (refine hK _ _ ?_; (try clear hK); (try clear K))
      exact PW.ret (Pure.ret rfl (by rw [hn, this]; rfl) rfl)
    have h16 : s.length ≤ 16 := by simp at h1; omega
    have h16' : decide (s.length ≤ 16) = true := by simpa using h16
    simp only [hne, h1, hget, h01, Bool.not_false, Int.toNat_zero, Int.le_refl, go_sem, ↓reduceIte, reduceCtorEq, Nat.reduceBEq, Nat.reduceAdd, Nat.reduceMul, Nat.reduceSub, Nat.reduceLT, Nat.reduceLeDiff, Nat.reduceEqDiff]
    refine (first_pc c).use (Weaks.refl _) rfl rfl ?_
    refine PO.go tab_ok [] ?_
    cases h2 : firstB c
    · simp only [go_sem, ↓reduceIte, reduceCtorEq, Nat.reduceBEq, Nat.reduceAdd, Nat.reduceMul, Nat.reduceSub, Nat.reduceLT, Nat.reduceLeDiff, Nat.reduceEqDiff]
      (refine hK _ _ ?_; (try clear hK); (try clear K))
      exact PW.ret (Pure.ret rfl (by rw [hn, h16', h2]; rfl) rfl)
    simp only [go_sem, ↓reduceIte, reduceCtorEq, Nat.reduceBEq, Nat.reduceAdd, Nat.reduceMul, Nat.reduceSub, Nat.reduceLT, Nat.reduceLeDiff, Nat.reduceEqDiff]
    refine (lexrow_pc small_pc (s := s) (by omega)).use (Weaks.refl _) rfl rfl ?_
    refine PO.go tab_ok [] ?_
    simp only [go_sem, ↓reduceIte, reduceCtorEq, Nat.reduceBEq, Nat.reduceAdd, Nat.reduceMul, Nat.reduceSub, Nat.reduceLT, Nat.reduceLeDiff, Nat.reduceEqDiff]
    (refine hK _ _ ?_; (try clear hK); (try clear K))
    refine PW.ret (Pure.ret rfl ?_ rfl)
    have : ((rowN smallB s : Int) == (s.length : Int)) = (rowN smallB s == s.length) := by
      by_cases h : rowN smallB s = s.length
      · simp [h]
      · have : ¬ ((rowN smallB s : Int) = (s.length : Int)) := by omega
        rw [beq_eq_false_iff_ne.2 h, beq_eq_false_iff_ne.2 this]
    simp only [resPV, hn, h16', h2, Bool.true_and, this]
end Go.Proofs.YtpepmfhemjeocaaGreatDoor
end
section
/- Plain: what is written of tokens; it is read as these tokens. -/
set_option linter.unusedVariables false
set_option linter.unusedSimpArgs false
namespace Go.Proofs.YtpepmfhemjeocaaGreatDoor
open Go Go.Proofs

/-- A token that may be written at all. -/
structure TokOk (t : Tok) : Prop where
  n0 : -9223372036854775808 ≤ t.num
  n1 : t.num ≤ 9223372036854775807
  text : t.text.length ≤ 100000
def partsM : List Tok → List Str
  | [] => []
  | t :: l => if t.kind = 6 then partsM l else tokS t :: partsM l
def writeM (l : List Tok) : Str := Lib.join (partsM l) [32]
theorem parts_app (l m : List Tok) : partsM (l ++ m) = partsM l ++ partsM m := by
  induction l with
  | nil => rfl
  | cons t l ih => simp only [List.cons_append, partsM, ih]; split <;> rfl
theorem parts_len (l : List Tok) : (partsM l).length ≤ l.length := by
  induction l with
  | nil => exact Nat.le_refl _
  | cons t l ih => simp only [partsM]; split <;> simp <;> omega
theorem tokS_len {t : Tok} (h : TokOk t) : (tokS t).length ≤ 200002 := by
  have h1 := h.text
  have h2 := Lib.itoa_length_le t.num h.n0 h.n1
  have h3 := esc_len t.text
  unfold tokS
  split
  · omega
  · split
    · simp only [quoteT, List.length_cons, List.length_append, List.length_nil]; omega
    · omega
theorem parts_lens {l : List Tok} (h : ∀ t ∈ l, TokOk t) : Lib.lens (partsM l) ≤ 200002 * (partsM l).length := by
  induction l with
  | nil => simp [partsM, Lib.lens]
  | cons t l ih =>
    have ih := ih fun x hx => h x (by simp [hx])
    have := tokS_len (h t (by simp))
    simp only [partsM]
    split
    · exact ih
    · simp only [Lib.lens, List.map_cons, List.sum_cons, List.length_cons] at ih ⊢
      omega
theorem write_len {l : List Tok} (h : ∀ t ∈ l, TokOk t) : (writeM l).length ≤ 200003 * l.length := by
  have h1 := parts_lens h
  have h2 := parts_len l
  unfold writeM
  generalize partsM l = p at h1 h2
  cases p with
  | nil => simp [Lib.join_nil]
  | cons x r =>
    rw [Lib.join_length]
    simp only [List.length_cons, List.length_nil] at h1 h2 ⊢
    omega
theorem wr_join {l : List Tok} (h : ∀ t ∈ l, t.kind ≠ 6) : wrM l = writeM l := by
  unfold writeM
  induction l with
  | nil => rfl
  | cons t l ih =>
    have ih := ih fun x hx => h x (by simp [hx])
    have ht := h t (by simp)
    simp only [partsM, if_neg ht]
    cases l with
    | nil => simp only [partsM, Lib.join_one, wrM]
    | cons u l =>
      have hu := h u (by simp)
      simp only [wrM, ih, partsM, if_neg hu]
      rw [Lib.join_cons, Lib.join_cons]
      simp [Lib.joinTail]
theorem eqvs_z : ∀ {l m : List Tok}, Eqvs l m → m.map Tok.z = l.map Tok.z
  | _, _, .nil => rfl
  | _, _, .cons t u l m h hs => by
    obtain ⟨h1, h2, h3⟩ := h
    have : u.z = t.z := by simp [Tok.z, h1, h2, h3]
    simp [this, eqvs_z hs]
theorem wf_kind {t : Tok} (h : WfT t) : t.kind ≠ 6 := by cases h <;> simp
theorem wf_ok {t : Tok} (h : WfT t) : TokOk t := by
  cases h with
  | name s a h =>
    refine ⟨by simp, by simp, ?_⟩
    cases s with
    | nil => cases h
    | cons c r =>
      simp only [nameB, Bool.and_eq_true, decide_eq_true_eq] at h
      have := h.1.1
      simp only; omega
  | word s a h =>
    refine ⟨by simp, by simp, ?_⟩
    have : ∀ x ∈ wordsL, x.length ≤ 100000 := by decide
    exact this s h
  | num n a h0 h => exact ⟨by simp only; omega, h, by simp⟩
  | text s a h => exact ⟨by simp, by simp, by simp only; omega⟩
  | sign s a h =>
    refine ⟨by simp, by simp, ?_⟩
    have : ∀ x ∈ signsL, x.length ≤ 100000 := by decide
    exact this s h
theorem end_ok (n : Nat) (h : n ≤ 2000) : TokOk (endT n) := ⟨by simp [endT], by simp [endT], by simp [endT]⟩
/-- What is written of a row of tokens is read as these tokens. -/
theorem relexM {l : List Tok} (h : ∀ t ∈ l, WfT t) (hl : (writeM l).length ≤ 2000) : ∃ m, lexM (writeM l) = (m ++ [endT (writeM l).length], ⟨0, 0⟩) ∧ m.map Tok.z = l.map Tok.z := by
  have hw := wr_join (l := l) fun t ht => wf_kind (h t ht)
  obtain ⟨m, e1, e2⟩ := relex l ((writeM l).length + 1) 0 [] h (by rw [hw]; omega)
  rw [hw] at e1
  refine ⟨m, ?_, eqvs_z e2⟩
  unfold lexM
  rw [if_neg (by omega), e1, Nat.zero_add, List.nil_append]
theorem write_end (l : List Tok) (n : Nat) : writeM (l ++ [endT n]) = writeM l := by
  unfold writeM
  rw [parts_app]
  simp [partsM, endT]
end Go.Proofs.YtpepmfhemjeocaaGreatDoor
end
section
/- lex.Write. -/
set_option linter.unusedVariables false
set_option linter.unusedSimpArgs false
namespace Go.Proofs.YtpepmfhemjeocaaGreatDoor
open Go Go.Proofs Go.RowKit

theorem Write_pc {l : List Tok} (h : ∀ t ∈ l, TokOk t) (hl : l.length ≤ 100000000) : Pure Tryz.prog 20 [toksPV l] (.str (writeM l)) := by
  have hlen := write_len h
  have hpl := parts_len l
  unfold toksPV
  refine PC.intro tab_ok Tryz.func20 rfl (by kernel_rfl) Tryz.ntmps20 (Nat.le_of_ble_eq_true rfl) (rs := _) (congrArg Array.toList Tryz.results20) ?_
  (repeat (refine PW.go tab_ok [] fun K hK => ?_; simp only [go_sem, ↓reduceIte, reduceCtorEq, Nat.reduceBEq, Nat.reduceAdd, Nat.reduceMul, Nat.reduceSub, Nat.reduceLT, Nat.reduceLeDiff, Nat.reduceEqDiff]; (refine hK _ _ ?_; clear hK K)))
  refine PW.seq_k fun K0 hK0 => ?_
  refine PW.go tab_ok [] fun K hK => ?_
  simp only [go_sem, ↓reduceIte, reduceCtorEq, Nat.reduceBEq, Nat.reduceAdd, Nat.reduceMul, Nat.reduceSub, Nat.reduceLT, Nat.reduceLeDiff, Nat.reduceEqDiff]
  (refine hK _ _ ?_; (try clear hK); (try clear K))
  refine PW.adopt ?_
  refine PW.less [(8, .int .i64 0), (7, .int .i64 (l.length : Int)), (6, .list 4 (l.map tokPV) .no), (3, .list 1 [] (.own 0))] (by simp [Sub, eget, Weak.nil]) ?_
  refine PW.block (PW.loop (α := Nat) (fun k => [(8, .int .i64 (k : Int)), (7, .int .i64 (l.length : Int)), (6, .list 4 (l.map tokPV) .no), (3, .list 1 (strs (partsM (l.take k))) (.own 0))]) (fun k => ⟨[], [(partsM (l.take k)).length]⟩)
    (fun k => k ≤ l.length) (fun k => l.length - k) 0 (Nat.zero_le _) ?_ rfl (fun _ _ => ⟨rfl, rfl⟩) ?_)
  · simp [Sub, eget, partsM, strs]
  intro k hk
  refine PW.go tab_ok [] fun K hK => ?_
  simp only [go_sem, ↓reduceIte, reduceCtorEq, Nat.reduceBEq, Nat.reduceAdd, Nat.reduceMul, Nat.reduceSub, Nat.reduceLT, Nat.reduceLeDiff, Nat.reduceEqDiff]
  (refine hK _ _ ?_; (try clear hK); (try clear K))
  refine PW.seq_k fun K2 hK2 => ?_
  refine PW.cond_split (b := decide ((k : Int) < (l.length : Int))) rfl ?_ ?_ <;> intro hc
  · have hlt : k < l.length := by simpa using hc
    have h0 : (0 : Int) ≤ (k : Int) := by omega
    obtain ⟨t, ht⟩ : ∃ t, l[k]? = some t := ⟨l[k], List.getElem?_eq_getElem hlt⟩
    have hg : (l.map tokPV)[k]? = some (tokPV t) := by rw [List.getElem?_map, ht]; rfl
    have htk : l.take (k + 1) = l.take k ++ [t] := by rw [List.take_add_one, ht]; rfl
    have hpk : (partsM (l.take k)).length ≤ k := by
      have := parts_len (l.take k)
      simp only [List.length_take] at this
      omega
    have hok := h t (List.mem_of_getElem? ht)
    have hfit : ((partsM (l.take k)).length + 1) * 16 ≤ 140737488355328 := by omega
    have hmax : (partsM (l.take k)).length + 1 ≤ maxLen := by unfold maxLen; omega
    have hw : IntKind.i64.wrap ((k : Int) + 1) = ((k + 1 : Nat) : Int) := by
      rw [show (k : Int) + 1 = ((k + 1 : Nat) : Int) from by omega]
      exact wrap_nat (by omega)
    refine PW.skip (hK2 _ _ ?_)
    clear hK2 K2
    refine PW.seq_k fun K3 hK3 => PW.block ?_
    have hlast : ∀ {env : Env} {st : St} (p : List Str), p = partsM (l.take (k + 1)) → Sub env [(8, .int .i64 (k : Int)), (7, .int .i64 (l.length : Int)), (6, .list 4 (l.map tokPV) .no), (3, .list 1 (strs p) (.own 0))] →
        st = ⟨[[.int .i64 t.kind, .str t.text, .int .i64 t.num, .int .i64 t.at_]], [p.length]⟩ → K3 env st := by
      rintro env st p rfl hsub rfl
      refine hK3 _ _ (PW.less _ hsub ?_)
      refine PW.goL tab_ok [] fun K hK => ?_
      simp only [hw, go_sem, ↓reduceIte, reduceCtorEq, Nat.reduceBEq, Nat.reduceAdd, Nat.reduceMul, Nat.reduceSub, Nat.reduceLT, Nat.reduceLeDiff, Nat.reduceEqDiff]
      (refine hK _ _ ?_; (try clear hK); (try clear K))
      refine ⟨k + 1, by omega, by omega, by simp [Sub, eget], ⟨by simp, rfl, by simp⟩, ?_⟩
      have hcm : ∀ l : List Tok, PVs.clean 0 1 (l.map tokPV) = true := fun l => clean_map (tok_clean 0 1) l
      have hcs : ∀ l : List Str, PVs.clean 0 1 (strs l) = true := fun l => clean_map (fun _ => rfl) l
      simp [Env.clean, PV.clean, hcm, hcs]
    refine PW.go tab_ok [] fun K hK => ?_
    simp only [h0, Int.toNat_natCast, hg, tokPV, go_sem, ↓reduceIte, reduceCtorEq, Nat.reduceBEq, Nat.reduceAdd, Nat.reduceMul, Nat.reduceSub, Nat.reduceLT, Nat.reduceLeDiff, Nat.reduceEqDiff]
    (refine hK _ _ ?_; (try clear hK); (try clear K))
    refine PW.go tab_ok [] fun K hK => ?_
    simp only [go_sem, ↓reduceIte, reduceCtorEq, Nat.reduceBEq, Nat.reduceAdd, Nat.reduceMul, Nat.reduceSub, Nat.reduceLT, Nat.reduceLeDiff, Nat.reduceEqDiff]
    (refine hK _ _ ?_; (try clear hK); (try clear K))
    refine PW.block ?_
    refine PW.go tab_ok [] fun K hK => ?_
    simp only [go_sem, ↓reduceIte, reduceCtorEq, Nat.reduceBEq, Nat.reduceAdd, Nat.reduceMul, Nat.reduceSub, Nat.reduceLT, Nat.reduceLeDiff, Nat.reduceEqDiff]
    (refine hK _ _ ?_; (try clear hK); (try clear K))
    refine PW.cond_split (b := t.kind == 6) rfl ?_ ?_ <;> intro hb6
    · have e6 : t.kind = 6 := beq_iff_eq.1 hb6
      refine PW.skip ?_
      exact hlast (partsM (l.take k)) (by rw [htk, parts_app]; simp [partsM, e6]) (by simp [Sub, eget]) rfl
    have e6 : ¬ t.kind = 6 := beq_eq_false_iff_ne.1 hb6
    refine PW.go tab_ok [] fun K hK => ?_
    simp only [go_sem, ↓reduceIte, reduceCtorEq, Nat.reduceBEq, Nat.reduceAdd, Nat.reduceMul, Nat.reduceSub, Nat.reduceLT, Nat.reduceLeDiff, Nat.reduceEqDiff]
    (refine hK _ _ ?_; (try clear hK); (try clear K))
    refine PW.cond_split (b := t.kind == 3) rfl ?_ ?_ <;> intro hb3
    · have e3 : t.kind = 3 := beq_iff_eq.1 hb3
      have hp := literal_text (v := ⟨1, t.num, []⟩) hok.n0 hok.n1 (by simp)
      simp only [vPV, vC] at hp
      refine PW.goL tab_ok [] fun K hK => ?_
      simp only [go_sem, ↓reduceIte, reduceCtorEq, Nat.reduceBEq, Nat.reduceAdd, Nat.reduceMul, Nat.reduceSub, Nat.reduceLT, Nat.reduceLeDiff, Nat.reduceEqDiff]
      refine hp.use (Weaks.refl _) rfl rfl ?_
      refine PO.go tab_ok [] ?_
      simp only [strs, hfit, hmax, go_sem, ↓reduceIte, reduceCtorEq, Nat.reduceBEq, Nat.reduceAdd, Nat.reduceMul, Nat.reduceSub, Nat.reduceLT, Nat.reduceLeDiff, Nat.reduceEqDiff]
      (refine hK _ _ ?_; (try clear hK); (try clear K))
      exact hlast (partsM (l.take k) ++ [tokS t]) (by rw [htk, parts_app]; simp [partsM, e6]) (by simp [Sub, eget, strs, tokS, e3, litT]) (by simp)
    have e3 : ¬ t.kind = 3 := beq_eq_false_iff_ne.1 hb3
    refine PW.go tab_ok [] fun K hK => ?_
    simp only [go_sem, ↓reduceIte, reduceCtorEq, Nat.reduceBEq, Nat.reduceAdd, Nat.reduceMul, Nat.reduceSub, Nat.reduceLT, Nat.reduceLeDiff, Nat.reduceEqDiff]
    (refine hK _ _ ?_; (try clear hK); (try clear K))
    refine PW.cond_split (b := t.kind == 4) rfl ?_ ?_ <;> intro hb4
    · have e4 : t.kind = 4 := beq_iff_eq.1 hb4
      have hp := literal_text (v := ⟨2, 0, t.text⟩) (by show (-9223372036854775808 : Int) ≤ 0; decide) (by show (0 : Int) ≤ 9223372036854775807; decide) hok.text
      simp only [vPV, vC] at hp
      refine PW.goL tab_ok [] fun K hK => ?_
      simp only [go_sem, ↓reduceIte, reduceCtorEq, Nat.reduceBEq, Nat.reduceAdd, Nat.reduceMul, Nat.reduceSub, Nat.reduceLT, Nat.reduceLeDiff, Nat.reduceEqDiff]
      refine hp.use (Weaks.refl _) rfl rfl ?_
      refine PO.go tab_ok [] ?_
      simp only [strs, hfit, hmax, go_sem, ↓reduceIte, reduceCtorEq, Nat.reduceBEq, Nat.reduceAdd, Nat.reduceMul, Nat.reduceSub, Nat.reduceLT, Nat.reduceLeDiff, Nat.reduceEqDiff]
      (refine hK _ _ ?_; (try clear hK); (try clear K))
      exact hlast (partsM (l.take k) ++ [tokS t]) (by rw [htk, parts_app]; simp [partsM, e6]) (by simp [Sub, eget, strs, tokS, e4, litT]) (by simp)
    have e4 : ¬ t.kind = 4 := beq_eq_false_iff_ne.1 hb4
    refine PW.goL tab_ok [] fun K hK => ?_
    simp only [strs, hfit, hmax, go_sem, ↓reduceIte, reduceCtorEq, Nat.reduceBEq, Nat.reduceAdd, Nat.reduceMul, Nat.reduceSub, Nat.reduceLT, Nat.reduceLeDiff, Nat.reduceEqDiff]
    (refine hK _ _ ?_; (try clear hK); (try clear K))
    exact hlast (partsM (l.take k) ++ [tokS t]) (by rw [htk, parts_app]; simp [partsM, e6]) (by simp [Sub, eget, strs, tokS, e3, e4]) (by simp)
  · have hge : k = l.length := by
      have : ¬ (k : Int) < (l.length : Int) := by simpa using hc
      omega
    subst hge
    refine PW.exit (hK0 _ _ ?_)
    rw [List.take_length]
    refine PW.go tab_ok [] fun K hK => ?_
    simp only [go_sem, ↓reduceIte, reduceCtorEq, Nat.reduceBEq, Nat.reduceAdd, Nat.reduceMul, Nat.reduceSub, Nat.reduceLT, Nat.reduceLeDiff, Nat.reduceEqDiff]
    refine (join_pc (xs := partsM l) [32] (by omega) (by unfold writeM at hlen; omega)).use (by (repeat (first | exact .nil | refine .cons (by first | exact .refl _ | exact Weak.nil _ _ _ | exact Weak.no _ _ _ | exact opt_weak _) ?_))) (by simp [PVs.clean, PV.clean, strs_clean]) rfl ?_
    refine PO.go tab_ok [] ?_
    simp only [go_sem, ↓reduceIte, reduceCtorEq, Nat.reduceBEq, Nat.reduceAdd, Nat.reduceMul, Nat.reduceSub, Nat.reduceLT, Nat.reduceLeDiff, Nat.reduceEqDiff]
    (refine hK _ _ ?_; (try clear hK); (try clear K))
    exact PW.ret (Pure.ret rfl rfl rfl)
end Go.Proofs.YtpepmfhemjeocaaGreatDoor
end
section
/- Plain: what ParseBlanks says of the readers. -/
set_option linter.unusedVariables false
set_option linter.unusedSimpArgs false
namespace Go.Proofs.YtpepmfhemjeocaaGreatDoor

/-- What the lexer gives. -/
theorem lexM_wf {s : Str} (h : (lexM s).2.c = 0) : ∃ pre, lexM s = (pre ++ [endT s.length], ⟨0, 0⟩) ∧ (∀ t ∈ pre, WfT t) ∧ s.length ≤ 2000 := by
  obtain ⟨h1, h2⟩ := lexM_fine h
  rw [h2] at h ⊢
  obtain ⟨pre, e1, e2⟩ := lexF_wf (s.length + 1) s 0 [] (by omega) h (by simp)
  exact ⟨pre, by rw [e1, Nat.zero_add], e2, h1⟩
theorem one_if (l : List Tok) : oneM l ⟨0, 0⟩ = if (endM (exprM ⟨l, 0, 0, 0⟩).2).c ≠ 0 then (ex0, ⟨(endM (exprM ⟨l, 0, 0, 0⟩).2).c, (endM (exprM ⟨l, 0, 0, 0⟩).2).a⟩) else ((exprM ⟨l, 0, 0, 0⟩).1, ⟨0, 0⟩) := by
  unfold oneM
  rw [if_neg (by simp)]
theorem script_if (l : List Tok) : scriptM l ⟨0, 0⟩ = if (endM (scrL 9 [] ⟨l, 0, 0, 0⟩).2).c ≠ 0 then ([], ⟨(endM (scrL 9 [] ⟨l, 0, 0, 0⟩).2).c, (endM (scrL 9 [] ⟨l, 0, 0, 0⟩).2).a⟩) else ((scrL 9 [] ⟨l, 0, 0, 0⟩).1, ⟨0, 0⟩) := by
  unfold scriptM
  rw [if_neg (by simp)]
theorem one_z {l m : List Tok} (h : m.map Tok.z = l.map Tok.z) : (oneM m ⟨0, 0⟩).1 = (oneM l ⟨0, 0⟩).1 ∧ (oneM m ⟨0, 0⟩).2.c = (oneM l ⟨0, 0⟩).2.c := by
  have e : (⟨m, 0, 0, 0⟩ : R).z = (⟨l, 0, 0, 0⟩ : R).z := by simp [R.z, h]
  have h1 := Cm.expr ⟨m, 0, 0, 0⟩
  have h2 := Cm.expr ⟨l, 0, 0, 0⟩
  rw [e, h2] at h1
  obtain ⟨g1, g2⟩ := Prod.mk.inj h1
  have g3 : (endM (exprM ⟨m, 0, 0, 0⟩).2).c = (endM (exprM ⟨l, 0, 0, 0⟩).2).c := by
    have a := end_z (exprM ⟨m, 0, 0, 0⟩).2
    have b := end_z (exprM ⟨l, 0, 0, 0⟩).2
    rw [← g2, b] at a
    exact (congrArg R.c a).symm
  rw [one_if, one_if]
  by_cases hc : (endM (exprM ⟨l, 0, 0, 0⟩).2).c ≠ 0
  · rw [if_pos hc, if_pos (by rw [g3]; exact hc)]
    exact ⟨rfl, g3⟩
  · rw [if_neg hc, if_neg (by rw [g3]; exact hc)]
    exact ⟨g1.symm, rfl⟩
theorem script_z {l m : List Tok} (h : m.map Tok.z = l.map Tok.z) : (scriptM m ⟨0, 0⟩).1 = (scriptM l ⟨0, 0⟩).1 ∧ (scriptM m ⟨0, 0⟩).2.c = (scriptM l ⟨0, 0⟩).2.c := by
  have e : (⟨m, 0, 0, 0⟩ : R).z = (⟨l, 0, 0, 0⟩ : R).z := by simp [R.z, h]
  have h1 := Cm.scr 9 [] ⟨m, 0, 0, 0⟩
  have h2 := Cm.scr 9 [] ⟨l, 0, 0, 0⟩
  rw [e, h2] at h1
  obtain ⟨g1, g2⟩ := Prod.mk.inj h1
  have g3 : (endM (scrL 9 [] ⟨m, 0, 0, 0⟩).2).c = (endM (scrL 9 [] ⟨l, 0, 0, 0⟩).2).c := by
    have a := end_z (scrL 9 [] ⟨m, 0, 0, 0⟩).2
    have b := end_z (scrL 9 [] ⟨l, 0, 0, 0⟩).2
    rw [← g2, b] at a
    exact (congrArg R.c a).symm
  rw [script_if, script_if]
  by_cases hc : (endM (scrL 9 [] ⟨l, 0, 0, 0⟩).2).c ≠ 0
  · rw [if_pos hc, if_pos (by rw [g3]; exact hc)]
    exact ⟨rfl, g3⟩
  · rw [if_neg hc, if_neg (by rw [g3]; exact hc)]
    exact ⟨g1.symm, rfl⟩
/-! ### What is right is small -/
theorem RightE.few : ∀ {e : Ex}, RightE e → Ex.few 1000000000000000 e = true
  | _, .val v h => rfl
  | _, .col t n ht hn => rfl
  | _, .op o a b h0 h1 ha hb => by simp [Ex.few, Exs.few, ha.few, hb.few]
  | _, .one k a h0 h1 ha => by simp [Ex.few, Exs.few, ha.few]
theorem few_nil : FewL [] := ⟨by simp, rfl⟩
theorem few_one {e : Ex} (h : RightE e) : FewL [e] := ⟨by simp, by simp [Exs.few, h.few]⟩
theorem OneE.few {l : List Ex} (h : OneE l) : FewL l := by
  cases h with
  | none => exact few_nil
  | some e h => exact few_one h
theorem ColE.few {l : List Ex} (h : ColE l) : FewL l := by
  cases h with
  | none => exact few_nil
  | some t n ht hn => exact few_one (.col t n ht hn)
theorem RightI.few {i : Itm} (h : RightI i) : FewL i.l := by
  cases h with
  | all => exact few_nil
  | rows => exact few_nil
  | expr e h => exact few_one h
  | of k e h0 h1 h => exact few_one h
theorem RightS.few {s : Stm} (h : RightS s) : FewS s := by
  cases h with
  | create t p cs ht hp h0 h1 hc => exact ⟨by simp only; omega, by simp [stm0], by simp [stm0], by simp [stm0], by simp [stm0], by simp [stm0], by simp [stm0], few_nil, few_nil, few_nil, few_nil⟩
  | drop t ht => exact ⟨by simp [stm0], by simp [stm0], by simp [stm0], by simp [stm0], by simp [stm0], by simp [stm0], by simp [stm0], few_nil, few_nil, few_nil, few_nil⟩
  | insert t rs ht h0 h1 hr => exact ⟨by simp [stm0], by simp only; omega, fun r h => by have := (hr r h).2.1; omega, by simp [stm0], by simp [stm0], by simp [stm0], by simp [stm0], few_nil, few_nil, few_nil, few_nil⟩
  | update t ss w ht h0 h1 hs hw => exact ⟨by simp [stm0], by simp [stm0], by simp [stm0], by simp only; omega, by simp [stm0], fun x hx => (hs x hx).e.few, by simp [stm0], few_nil, hw.few, few_nil, few_nil⟩
  | remove t w ht hw => exact ⟨by simp [stm0], by simp [stm0], by simp [stm0], by simp [stm0], by simp [stm0], by simp [stm0], by simp [stm0], few_nil, hw.few, few_nil, few_nil⟩
  | choose t j is on w g o d l ht h0 h1 hi hj hw hg ho hd hl0 hl1 =>
    refine ⟨by simp, by simp, by simp, by simp, by simp only; omega, by simp, fun i h => (hi i h).few, ?_, hw.few, hg.few, ho.few⟩
    rcases hj with ⟨_, rfl⟩ | ⟨_, e, rfl, he⟩
    · exact few_nil
    · exact few_one he
theorem wf_start {pre : List Tok} (h : ∀ t ∈ pre, WfT t) (n : Nat) : (⟨pre ++ [endT n], 0, 0, 0⟩ : R).wf := by
  intro t ht
  rcases List.mem_append.1 ht with ht | ht
  · exact .inr (h t ht)
  · simp at ht; subst ht; exact .inl rfl
theorem endM_z0 {r : R} (h : (endM r).c = 0) : r.c = 0 := (endM_zero h).1
/-- Where no fault is: right. -/
theorem one_right {pre : List Tok} (h : ∀ t ∈ pre, WfT t) (n : Nat) (hc : (oneM (pre ++ [endT n]) ⟨0, 0⟩).2.c = 0) : RightE (oneM (pre ++ [endT n]) ⟨0, 0⟩).1 := by
  unfold oneM at hc ⊢
  rw [if_neg (by simp)] at hc ⊢
  by_cases he : (endM (exprM ⟨pre ++ [endT n], 0, 0, 0⟩).2).c ≠ 0
  · rw [if_pos he] at hc
    exact absurd hc he
  · rw [if_neg he]
    exact (Rt.expr _ (wf_start h n) rfl).2.2.2 (endM_z0 (by simpa using he))
theorem script_right {pre : List Tok} (h : ∀ t ∈ pre, WfT t) (n : Nat) : ∀ s ∈ (scriptM (pre ++ [endT n]) ⟨0, 0⟩).1, RightS s := by
  unfold scriptM
  rw [if_neg (by simp)]
  by_cases he : (endM (scrL 9 [] ⟨pre ++ [endT n], 0, 0, 0⟩).2).c ≠ 0
  · rw [if_pos he]; simp
  · rw [if_neg he]
    exact (Rt.scr 9 [] _ (wf_start h n) rfl).2.2.2 (endM_z0 (by simpa using he)) (by simp)
theorem script_len (l : List Tok) : (scriptM l ⟨0, 0⟩).1.length ≤ 8 := by
  unfold scriptM
  rw [if_neg (by simp)]
  by_cases he : (endM (scrL 9 [] ⟨l, 0, 0, 0⟩).2).c ≠ 0
  · rw [if_pos he]; simp
  · rw [if_neg he]
    exact (scrL_len 9 [] _ (by omega) (by simp) rfl (endM_z0 (by simpa using he))).2
structure BlanksBody (s : Str) : Prop where
  ok : ∀ t ∈ (lexM s).1, TokOk t
  len : (lexM s).1.length ≤ 100000000
  few : ∀ x ∈ (scriptS s).1, FewS x
  flen : (scriptS s).1.length ≤ 1000000000000000
  ex : Ex.few 1000000000000000 (oneS s).1 = true
  same : (writeM (lexM s).1).length ≤ 2000 → (scriptS (writeM (lexM s).1)).1 = (scriptS s).1 ∧ (scriptS (writeM (lexM s).1)).2.c = (scriptS s).2.c ∧ (oneS (writeM (lexM s).1)).1 = (oneS s).1 ∧ (oneS (writeM (lexM s).1)).2.c = (oneS s).2.c
theorem lexF_len : ∀ (n : Nat) (rest : Str) (a : Nat) (acc : List Tok), rest.length < n → (lexF n rest a acc).1.length ≤ acc.length + rest.length + 1
  | 0, rest, a, acc, h => by omega
  | n + 1, rest, a, acc, h => by
    unfold lexF
    split
    · simp
    · rename_i h1
      split
      · simp
      · rename_i h2
        have h2' : (tokenM (rest.drop (blankN rest))).e = 0 := by simpa using h2
        have hle := tokenM_le h1 h2'
        have hbl := blankN_le rest
        simp only [List.length_drop] at hle
        refine Nat.le_trans (lexF_len n _ _ _ (by simp only [List.length_drop]; omega)) ?_
        simp only [List.length_drop, List.length_append, List.length_cons, List.length_nil]
        omega
theorem one_bad {l : List Tok} {f : Ft} (h : (oneM l f).2.c ≠ 0) : (oneM l f).1 = ex0 := by
  unfold oneM at h ⊢
  split
  · rfl
  · split
    · rfl
    · rename_i h1 h2
      rw [if_neg h1, if_neg h2] at h
      exact absurd rfl h
theorem blanks_law (s : Str) (h : (lexM s).2.c = 0) : BlanksBody s := by
  obtain ⟨pre, e, hw, hl⟩ := lexM_wf h
  have hlen := lexF_len (s.length + 1) s 0 [] (by omega)
  rw [← (lexM_fine h).2] at hlen
  refine ⟨?_, by simp at hlen; omega, ?_, ?_, ?_, ?_⟩
  · rw [e]
    intro t ht
    rcases List.mem_append.1 ht with ht | ht
    · exact wf_ok (hw t ht)
    · simp at ht; subst ht; exact end_ok _ hl
  · intro x hx
    unfold scriptS at hx
    rw [e] at hx
    exact (script_right hw _ x hx).few
  · unfold scriptS
    rw [e]
    exact Nat.le_trans (script_len _) (by decide)
  · unfold oneS
    rw [e]
    by_cases hc : (oneM (pre ++ [endT s.length]) ⟨0, 0⟩).2.c = 0
    · exact (one_right hw _ hc).few
    · rw [one_bad hc]; rfl
  · intro h2
    rw [e] at h2 ⊢
    simp only [write_end] at h2 ⊢
    obtain ⟨m, e1, e2⟩ := relexM hw h2
    have hz : (m ++ [endT (writeM pre).length]).map Tok.z = (pre ++ [endT s.length]).map Tok.z := by
      rw [List.map_append, List.map_append, e2]
      rfl
    obtain ⟨a1, a2⟩ := script_z hz
    obtain ⟨b1, b2⟩ := one_z hz
    unfold scriptS oneS
    rw [e, e1]
    exact ⟨a1, a2, b1, b2⟩
end Go.Proofs.YtpepmfhemjeocaaGreatDoor
end
section
/- vestrylaw09: its small case, its statements' runs. -/
set_option linter.unusedVariables false
set_option linter.unusedSimpArgs false
namespace Go.Proofs.YtpepmfhemjeocaaGreatDoor
open Go

def smTree : Ex := .mk 3 9 [] [] v0 [.mk 1 0 [] [] ⟨1, 1, []⟩ [], .mk 3 11 [] [] v0 [.mk 1 0 [] [] ⟨1, 2, []⟩ [], .mk 1 0 [] [] ⟨1, -3, []⟩ []]]
set_option maxRecDepth 100000 in
theorem sm_one : oneS [49, 32, 43, 32, 50, 32, 42, 32, 45, 51] = (smTree, ⟨0, 0⟩) := by kernel_rfl
set_option maxRecDepth 100000 in
theorem sm_script : scriptS [83, 69, 76, 69, 67, 84, 32, 42, 32, 70, 82, 79, 77, 32, 116, 32, 76, 73, 77, 73, 84, 32, 50] = ([⟨6, [116], [], [], [], [], [⟨1, []⟩], [], [], [], [], [], false, 2⟩], ⟨0, 0⟩) := by kernel_rfl
set_option maxRecDepth 100000 in
set_option maxHeartbeats 1000000 in
theorem lawSmall_pc : Pure Tryz.prog 18 [] (.bool true) := by
  have h1 := Script_pc [83, 69, 76, 69, 67, 84, 32, 42, 32, 70, 82, 79, 77, 32, 116, 32, 76, 73, 77, 73, 84, 32, 50]
  have h2 := One_pc [49, 32, 43, 32, 50, 32, 42, 32, 45, 51]
  rw [sm_script] at h1
  rw [sm_one] at h2
  refine PC.intro tab_ok Tryz.func18 rfl (by kernel_rfl) Tryz.ntmps18 (Nat.le_of_ble_eq_true rfl) (rs := _) (congrArg Array.toList Tryz.results18) ?_
  refine PW.go tab_ok [] fun K hK => ?_
  simp only [go_sem, ↓reduceIte, reduceCtorEq, Nat.reduceBEq, Nat.reduceAdd, Nat.reduceMul, Nat.reduceSub, Nat.reduceLT, Nat.reduceLeDiff, Nat.reduceEqDiff]
  (refine hK _ _ ?_; (try clear hK); (try clear K))
  refine PW.go tab_ok [] fun K hK => ?_
  simp only [go_sem, ↓reduceIte, reduceCtorEq, Nat.reduceBEq, Nat.reduceAdd, Nat.reduceMul, Nat.reduceSub, Nat.reduceLT, Nat.reduceLeDiff, Nat.reduceEqDiff]
  refine h1.use (Weaks.refl _) rfl rfl ?_
  refine PO.go tab_ok [] ?_
  simp only [ftPV, stmsPV, List.map_cons, List.map_nil, go_sem, ↓reduceIte, reduceCtorEq, Nat.reduceBEq, Nat.reduceAdd, Nat.reduceMul, Nat.reduceSub, Nat.reduceLT, Nat.reduceLeDiff, Nat.reduceEqDiff]
  (refine hK _ _ ?_; (try clear hK); (try clear K))
  refine PW.go tab_ok [] fun K hK => ?_
  simp only [go_sem, ↓reduceIte, reduceCtorEq, Nat.reduceBEq, Nat.reduceAdd, Nat.reduceMul, Nat.reduceSub, Nat.reduceLT, Nat.reduceLeDiff, Nat.reduceEqDiff]
  refine h2.use (Weaks.refl _) rfl rfl ?_
  refine PO.go tab_ok [] ?_
  simp only [ftPV, smTree, exPV, exC, exPVs, go_sem, ↓reduceIte, reduceCtorEq, Nat.reduceBEq, Nat.reduceAdd, Nat.reduceMul, Nat.reduceSub, Nat.reduceLT, Nat.reduceLeDiff, Nat.reduceEqDiff]
  (refine hK _ _ ?_; (try clear hK); (try clear K))
  refine PW.go tab_ok [] fun K hK => ?_
  simp only [eqCells, stPV1, stC, Int.toNat_zero, Int.toNat_one, go_sem, ↓reduceIte, reduceCtorEq, Nat.reduceBEq, Nat.reduceAdd, Nat.reduceMul, Nat.reduceSub, Nat.reduceLT, Nat.reduceLeDiff, Nat.reduceEqDiff]
  (refine hK _ _ ?_; (try clear hK); (try clear K))
  exact PW.ret (Pure.ret rfl rfl rfl)
end Go.Proofs.YtpepmfhemjeocaaGreatDoor
end
section
/- vestrylaw09: the run of ParseBlanks, over what the readers give. -/
set_option linter.unusedVariables false
set_option linter.unusedSimpArgs false
namespace Go.Proofs.YtpepmfhemjeocaaGreatDoor
open Go

set_option maxRecDepth 100000 in
set_option maxHeartbeats 2000000 in
theorem pblanks_pc (s : Str) : Pure Tryz.prog 5 [.str s] (.bool true) := by
  have p1 := lex_pc s
  have hlaw := blanks_law s
  have c1 := toks_clean (lexM s).1
  refine PC.intro tab_ok Tryz.func5 rfl (by kernel_rfl) Tryz.ntmps5 (Nat.le_of_ble_eq_true rfl) (rs := _) (congrArg Array.toList Tryz.results5) ?_
  (repeat (refine PW.go tab_ok [] fun K hK => ?_; simp only [go_sem, ↓reduceIte, reduceCtorEq, Nat.reduceBEq, Nat.reduceAdd, Nat.reduceMul, Nat.reduceSub, Nat.reduceLT, Nat.reduceLeDiff, Nat.reduceEqDiff]; (refine hK _ _ ?_; clear hK K)))
  refine PW.go tab_ok [] fun K hK => ?_
  simp only [go_sem, ↓reduceIte, reduceCtorEq, Nat.reduceBEq, Nat.reduceAdd, Nat.reduceMul, Nat.reduceSub, Nat.reduceLT, Nat.reduceLeDiff, Nat.reduceEqDiff]
  refine lawSmall_pc.use (Weaks.refl _) rfl rfl ?_
  refine PO.go tab_ok [] ?_
  simp only [go_sem, ↓reduceIte, reduceCtorEq, Nat.reduceBEq, Nat.reduceAdd, Nat.reduceMul, Nat.reduceSub, Nat.reduceLT, Nat.reduceLeDiff, Nat.reduceEqDiff]
  (refine hK _ _ ?_; (try clear hK); (try clear K))
  refine PW.go tab_ok [] fun K hK => ?_
  simp only [go_sem, ↓reduceIte, reduceCtorEq, Nat.reduceBEq, Nat.reduceAdd, Nat.reduceMul, Nat.reduceSub, Nat.reduceLT, Nat.reduceLeDiff, Nat.reduceEqDiff]
  refine p1.use (Weaks.refl _) rfl (by simp only [PV.clean, PVs.clean, c1]; rfl) ?_
  refine PO.go tab_ok [] ?_
  simp only [ftPV, toksPV, go_sem, ↓reduceIte, reduceCtorEq, Nat.reduceBEq, Nat.reduceAdd, Nat.reduceMul, Nat.reduceSub, Nat.reduceLT, Nat.reduceLeDiff, Nat.reduceEqDiff]
  (refine hK _ _ ?_; (try clear hK); (try clear K))
  refine PW.seq_k fun K0 hK0 => ?_
  refine PW.go tab_ok [] fun K hK => ?_
  simp only [go_sem, ↓reduceIte, reduceCtorEq, Nat.reduceBEq, Nat.reduceAdd, Nat.reduceMul, Nat.reduceSub, Nat.reduceLT, Nat.reduceLeDiff, Nat.reduceEqDiff]
  (refine hK _ _ ?_; (try clear hK); (try clear K))
  refine PW.cond_split (b := (lexM s).2.c != 0) rfl ?_ ?_ <;> intro hb
  · (repeat (refine PW.go tab_ok [] fun K hK => ?_; simp only [go_sem, ↓reduceIte, reduceCtorEq, Nat.reduceBEq, Nat.reduceAdd, Nat.reduceMul, Nat.reduceSub, Nat.reduceLT, Nat.reduceLeDiff, Nat.reduceEqDiff]; (refine hK _ _ ?_; clear hK K)))
    exact PW.ret (Pure.ret rfl rfl rfl)
  have h0 : (lexM s).2.c = 0 := by simpa using hb
  obtain ⟨l1, l2, l3, l4, l5, l6⟩ := hlaw h0
  have p2 := Write_pc l1 l2
  simp only [toksPV] at p2
  refine PW.skip (hK0 _ _ ?_); clear hK0 K0
  refine PW.go tab_ok [] fun K hK => ?_
  simp only [go_sem, ↓reduceIte, reduceCtorEq, Nat.reduceBEq, Nat.reduceAdd, Nat.reduceMul, Nat.reduceSub, Nat.reduceLT, Nat.reduceLeDiff, Nat.reduceEqDiff]
  refine p2.use (Weaks.refl _) (by simp [PVs.clean, PV.clean, clean_map (tok_clean 0 0)]) rfl ?_
  refine PO.go tab_ok [] ?_
  simp only [go_sem, ↓reduceIte, reduceCtorEq, Nat.reduceBEq, Nat.reduceAdd, Nat.reduceMul, Nat.reduceSub, Nat.reduceLT, Nat.reduceLeDiff, Nat.reduceEqDiff]
  (refine hK _ _ ?_; (try clear hK); (try clear K))
  refine PW.seq_k fun K0 hK0 => ?_
  refine PW.go tab_ok [] fun K hK => ?_
  simp only [go_sem, ↓reduceIte, reduceCtorEq, Nat.reduceBEq, Nat.reduceAdd, Nat.reduceMul, Nat.reduceSub, Nat.reduceLT, Nat.reduceLeDiff, Nat.reduceEqDiff]
  (refine hK _ _ ?_; (try clear hK); (try clear K))
  refine PW.cond_split (b := decide (((writeM (lexM s).1).length : Int) > 2000)) rfl ?_ ?_ <;> intro hb2
  · (repeat (refine PW.go tab_ok [] fun K hK => ?_; simp only [go_sem, ↓reduceIte, reduceCtorEq, Nat.reduceBEq, Nat.reduceAdd, Nat.reduceMul, Nat.reduceSub, Nat.reduceLT, Nat.reduceLeDiff, Nat.reduceEqDiff]; (refine hK _ _ ?_; clear hK K)))
    exact PW.ret (Pure.ret rfl rfl rfl)
  have hl : (writeM (lexM s).1).length ≤ 2000 := by
    have : ¬ ((writeM (lexM s).1).length : Int) > 2000 := by simpa using hb2
    omega
  obtain ⟨e1, e2, e3, e4⟩ := l6 hl
  generalize writeM (lexM s).1 = t at e1 e2 e3 e4 ⊢
  have q1 := Script_pc s
  have q2 := Script_pc t
  have q3 := One_pc s
  have q4 := One_pc t
  have q5 := allSame_pc (fun x hx => stSame_pc (l3 x hx)) l4
  have q6 := sameRefl_pc l5
  rw [e1] at q2
  rw [e3] at q4
  have d1 := stms_clean (scriptS s).1
  have d2 := exPV_clean (oneS s).1
  generalize (scriptS s).1 = ss at *
  generalize (oneS s).1 = ee at *
  simp only [ftPV, stmsPV, e2, e4] at q1 q2 q3 q4 d1
  refine PW.skip (hK0 _ _ ?_); clear hK0 K0
  refine PW.go tab_ok [] fun K hK => ?_
  simp only [go_sem, ↓reduceIte, reduceCtorEq, Nat.reduceBEq, Nat.reduceAdd, Nat.reduceMul, Nat.reduceSub, Nat.reduceLT, Nat.reduceLeDiff, Nat.reduceEqDiff]
  refine q1.use (Weaks.refl _) rfl (by simp [PV.clean, PVs.clean, clean_map (stPV1_clean 0 0)]) ?_
  refine PO.go tab_ok [] ?_
  simp only [go_sem, ↓reduceIte, reduceCtorEq, Nat.reduceBEq, Nat.reduceAdd, Nat.reduceMul, Nat.reduceSub, Nat.reduceLT, Nat.reduceLeDiff, Nat.reduceEqDiff]
  (refine hK _ _ ?_; (try clear hK); (try clear K))
  refine PW.go tab_ok [] fun K hK => ?_
  simp only [go_sem, ↓reduceIte, reduceCtorEq, Nat.reduceBEq, Nat.reduceAdd, Nat.reduceMul, Nat.reduceSub, Nat.reduceLT, Nat.reduceLeDiff, Nat.reduceEqDiff]
  refine q2.use (Weaks.refl _) rfl (by simp [PV.clean, PVs.clean, clean_map (stPV1_clean 0 0)]) ?_
  refine PO.go tab_ok [] ?_
  simp only [go_sem, ↓reduceIte, reduceCtorEq, Nat.reduceBEq, Nat.reduceAdd, Nat.reduceMul, Nat.reduceSub, Nat.reduceLT, Nat.reduceLeDiff, Nat.reduceEqDiff]
  (refine hK _ _ ?_; (try clear hK); (try clear K))
  refine PW.go tab_ok [] fun K hK => ?_
  simp only [go_sem, ↓reduceIte, reduceCtorEq, Nat.reduceBEq, Nat.reduceAdd, Nat.reduceMul, Nat.reduceSub, Nat.reduceLT, Nat.reduceLeDiff, Nat.reduceEqDiff]
  refine q3.use (Weaks.refl _) rfl (by simp only [PV.clean, PVs.clean, d2]; rfl) ?_
  refine PO.go tab_ok [] ?_
  simp only [exPV_cells, exC_len, exC_all, go_sem, ↓reduceIte, reduceCtorEq, Nat.reduceBEq, Nat.reduceAdd, Nat.reduceMul, Nat.reduceSub, Nat.reduceLT, Nat.reduceLeDiff, Nat.reduceEqDiff]
  (refine hK _ _ ?_; (try clear hK); (try clear K))
  refine PW.go tab_ok [] fun K hK => ?_
  simp only [go_sem, ↓reduceIte, reduceCtorEq, Nat.reduceBEq, Nat.reduceAdd, Nat.reduceMul, Nat.reduceSub, Nat.reduceLT, Nat.reduceLeDiff, Nat.reduceEqDiff]
  refine q4.use (Weaks.refl _) rfl (by simp only [PV.clean, PVs.clean, d2]; rfl) ?_
  refine PO.go tab_ok [] ?_
  simp only [exPV_cells, exC_len, exC_all, go_sem, ↓reduceIte, reduceCtorEq, Nat.reduceBEq, Nat.reduceAdd, Nat.reduceMul, Nat.reduceSub, Nat.reduceLT, Nat.reduceLeDiff, Nat.reduceEqDiff]
  (refine hK _ _ ?_; (try clear hK); (try clear K))
  refine PW.go tab_ok [] fun K hK => ?_
  simp only [go_sem, ↓reduceIte, reduceCtorEq, Nat.reduceBEq, Nat.reduceAdd, Nat.reduceMul, Nat.reduceSub, Nat.reduceLT, Nat.reduceLeDiff, Nat.reduceEqDiff]
  refine q5.use (Weaks.refl _) (by simp [PV.clean, PVs.clean, clean_map (stPV1_clean 0 0)]) rfl ?_
  refine PO.go tab_ok [] ?_
  simp only [exC_take, agg_exC, beq_self_eq_true, go_sem, ↓reduceIte, reduceCtorEq, Nat.reduceBEq, Nat.reduceAdd, Nat.reduceMul, Nat.reduceSub, Nat.reduceLT, Nat.reduceLeDiff, Nat.reduceEqDiff]
  refine q6.use (Weaks.refl _) (by simp only [PVs.clean, d2]; rfl) rfl ?_
  refine PO.go tab_ok [] ?_
  simp only [beq_self_eq_true, go_sem, ↓reduceIte, reduceCtorEq, Nat.reduceBEq, Nat.reduceAdd, Nat.reduceMul, Nat.reduceSub, Nat.reduceLT, Nat.reduceLeDiff, Nat.reduceEqDiff]
  (refine hK _ _ ?_; (try clear hK); (try clear K))
  exact PW.ret (Pure.ret rfl rfl rfl)
end Go.Proofs.YtpepmfhemjeocaaGreatDoor
end
