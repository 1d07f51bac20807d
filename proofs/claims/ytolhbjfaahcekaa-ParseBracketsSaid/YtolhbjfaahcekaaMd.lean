/- Texts of this claim's author, joined: Ld, Ta, Tb, Tc, Le, Lf. -/
import Derived.Test.YtolhbjfaahcekaaMc
section
/- Plain: the lexer where a line more stands behind, and further on. -/
set_option linter.unusedVariables false
set_option linter.unusedSimpArgs false
namespace Go.Proofs.Ytolhbjfaahcekaa

theorem rowN_ext {p : UInt8 → Bool} (hp : p 10 = false) (t : Str) : ∀ s : Str, rowN p (s ++ 10 :: t) = rowN p s
  | [] => by simp [rowN, hp]
  | c :: s => by
    have ih := rowN_ext hp t s
    simp only [rowN, List.cons_append, List.takeWhile_cons] at ih ⊢
    cases p c
    · rfl
    · simp only [if_true, List.length_cons, ih]
theorem prefB_iff {s x : Str} : prefB s x = true ↔ x <+: s := by
  simp only [prefB, Bool.and_eq_true, decide_eq_true_eq, beq_iff_eq]
  constructor
  · rintro ⟨_, h⟩
    exact ⟨s.drop x.length, by conv => lhs; arg 1; rw [← h]
                               exact List.take_append_drop _ _⟩
  · rintro ⟨y, rfl⟩
    exact ⟨by simp; omega, by simp⟩
theorem pref_ext {t : Str} : ∀ {x s : Str}, 10 ∉ x → (x <+: s ++ 10 :: t ↔ x <+: s)
  | [], s, _ => by simp
  | a :: x, [], h => by
    have : a ≠ 10 := fun e => h (by simp [e])
    simp [this]
  | a :: x, b :: s, h => by
    simp only [List.cons_append, List.cons_prefix_cons]
    rw [pref_ext (x := x) (s := s) (fun e => h (by simp [e]))]
theorem prefB_ext {t x : Str} (s : Str) (h : 10 ∉ x) : prefB (s ++ 10 :: t) x = prefB s x := by
  rw [Bool.eq_iff_iff, prefB_iff, prefB_iff, pref_ext h]
theorem blankF_fuel : ∀ (n m : Nat) (s : Str), s.length ≤ n → s.length ≤ m → blankF n s = blankF m s
  | 0, m, s, h, h' => by
    have : s = [] := List.length_eq_zero_iff.1 (by omega)
    subst this
    cases m <;> rfl
  | n + 1, 0, s, h, h' => by
    have : s = [] := List.length_eq_zero_iff.1 (by omega)
    subst this
    rfl
  | n + 1, m + 1, [], h, h' => rfl
  | n + 1, m + 1, c :: r, h, h' => by
    simp only [List.length_cons] at h h'
    simp only [blankF]
    split
    · rw [blankF_fuel n m r (by omega) (by omega)]
    · split
      · rename_i hd
        have hk : 2 ≤ rowN lineB (c :: r) := rowN_dash (by simp only [Bool.and_eq_true] at hd; exact hd.2)
        rw [blankF_fuel n m _ (by simp only [List.length_drop, List.length_cons]; omega) (by simp only [List.length_drop, List.length_cons]; omega)]
      · rfl
theorem blankN_cons (c : UInt8) (r : Str) : blankN (c :: r) = if blankB c then 1 + blankN r else if ((c.toNat : Int) == 45) && prefB (c :: r) sDash then rowN lineB (c :: r) + blankN ((c :: r).drop (rowN lineB (c :: r))) else 0 := by
  show blankF (r.length + 1) (c :: r) = _
  simp only [blankF]
  split
  · rfl
  · split
    · rename_i hd
      have hk : 2 ≤ rowN lineB (c :: r) := rowN_dash (by simp only [Bool.and_eq_true] at hd; exact hd.2)
      rw [blankF_fuel r.length ((c :: r).drop (rowN lineB (c :: r))).length _ (by simp only [List.length_drop, List.length_cons]; omega) (Nat.le_refl _)]
      rfl
    · rfl
theorem blankN_ext (t : Str) : ∀ (n : Nat) (s : Str), s.length ≤ n → blankN (s ++ 10 :: t) = if blankN s = s.length then s.length + 1 + blankN t else blankN s
  | n, [], _ => by
    have h0 : blankN ([] : Str) = ([] : Str).length := rfl
    rw [if_pos h0]
    show blankN (10 :: t) = 0 + 1 + blankN t
    rw [blankN_cons, if_pos (by decide)]
  | 0, c :: r, h => by simp at h
  | n + 1, c :: r, h => by
    simp only [List.length_cons] at h
    have hl : blankN (c :: r) ≤ (c :: r).length := blankN_le _
    rw [List.cons_append, blankN_cons, blankN_cons c r]
    by_cases hb : blankB c = true
    · rw [if_pos hb, if_pos hb, blankN_ext t n r (by omega)]
      simp only [List.length_cons]
      by_cases h1 : blankN r = r.length
      · rw [if_pos h1, if_pos (by omega)]; omega
      · rw [if_neg h1, if_neg (by omega)]
    rw [if_neg hb, if_neg hb]
    have hp : prefB (c :: (r ++ 10 :: t)) sDash = prefB (c :: r) sDash := prefB_ext (c :: r) (by decide)
    rw [hp]
    by_cases hd : ((c.toNat : Int) == 45 && prefB (c :: r) sDash) = true
    · have hk : 2 ≤ rowN lineB (c :: r) := rowN_dash (by simp only [Bool.and_eq_true] at hd; exact hd.2)
      have hk2 := rowN_le lineB (c :: r)
      have hr : rowN lineB (c :: (r ++ 10 :: t)) = rowN lineB (c :: r) := rowN_ext (by decide) t (c :: r)
      have hdr : (c :: (r ++ 10 :: t)).drop (rowN lineB (c :: r)) = (c :: r).drop (rowN lineB (c :: r)) ++ 10 :: t := by
        rw [← List.cons_append, List.drop_append_of_le_length hk2]
      rw [if_pos hd, if_pos hd, hr, hdr]
      generalize rowN lineB (c :: r) = k at hk hk2 ⊢
      have ih := blankN_ext t n ((c :: r).drop k) (by simp only [List.length_drop, List.length_cons]; omega)
      rw [ih]
      have hl2 : ((c :: r).drop k).length = r.length + 1 - k := by simp
      rw [hl2]
      simp only [List.length_cons] at hk2 ⊢
      by_cases h1 : blankN ((c :: r).drop k) = r.length + 1 - k
      · rw [if_pos h1, if_pos (by omega)]; omega
      · rw [if_neg h1, if_neg (by omega)]
    · rw [if_neg hd, if_neg hd, if_neg (by simp)]

theorem indexByte_ext (t : Str) (c : UInt8) : ∀ (l : Str), 0 ≤ Lib.indexByte l c → Lib.indexByte (l ++ t) c = Lib.indexByte l c
  | [], h => by simp [Lib.indexByte] at h
  | b :: l, h => by
    simp only [Lib.indexByte, List.cons_append] at h ⊢
    split
    · rfl
    · rename_i hb
      rw [if_neg hb] at h
      by_cases h2 : (Lib.indexByte l c == -1) = true
      · rw [if_pos h2] at h; omega
      · have h3 : Lib.indexByte l c ≠ -1 := by simpa using h2
        have h4 := (indexByte_lt l c).1
        rw [indexByte_ext t c l (by omega)]
theorem quoteF_ext (t : Str) : ∀ (m m' : Nat) (rest out : Str) (a : Nat), (quoteF m rest out a).e = 0 → m ≤ m' → quoteF m' (rest ++ 10 :: t) out a = quoteF m rest out a
  | 0, m', rest, out, a, h, _ => by simp [quoteF] at h
  | m + 1, 0, rest, out, a, h, hm => by omega
  | m + 1, m' + 1, rest, out, a, h, hm => by
    have hlt := indexByte_lt rest 39
    unfold quoteF at h ⊢
    split at h
    · simp at h
    · rename_i h1
      rw [if_neg h1]
      have e1 := indexByte_ext (10 :: t) 39 rest (by omega)
      rw [e1, if_neg h1]
      simp only at h ⊢
      have hk : (Lib.indexByte rest 39).toNat < rest.length := by omega
      rw [List.drop_append_of_le_length (by omega), prefB_ext _ (by decide), List.take_append_of_le_length (by omega)]
      split
      · rename_i hp
        rw [if_pos hp] at h
        have h3 : 1 ≤ (rest.drop ((Lib.indexByte rest 39).toNat + 1)).length := by
          cases hd : rest.drop ((Lib.indexByte rest 39).toNat + 1) with
          | nil => rw [hd] at hp; cases hp
          | cons => simp
        simp only [List.length_drop] at h3
        rw [List.drop_append_of_le_length (by omega)]
        exact quoteF_ext t m m' _ _ _ h (by omega)
      · rfl
theorem signF_ext (t : Str) : ∀ (l : List Str) (s : Str), (∀ x ∈ l, (10 : UInt8) ∉ x) → signF l (s ++ 10 :: t) = signF l s
  | [], s, _ => rfl
  | x :: l, s, h => by
    simp only [signF]
    rw [prefB_ext _ (h x (by simp)), signF_ext t l s fun y hy => h y (by simp [hy])]
theorem plainM_ext (t : Str) {s : Str} (hs : s ≠ []) {n : Nat} (hn : n ≤ s.length) : plainM (s ++ 10 :: t) n = plainM s n := by
  have hg : glued (s ++ 10 :: t) n = glued s n := by
    unfold glued
    rcases Nat.lt_or_ge n s.length with h | h
    · rw [List.getElem?_append_left h]
    · have : n = s.length := by omega
      subst this
      rw [List.getElem?_append_right (Nat.le_refl _), Nat.sub_self, List.getElem?_eq_none (Nat.le_refl _)]
      rfl
  unfold plainM
  rw [hg, List.take_append_of_le_length hn]
  cases s with
  | nil => exact absurd rfl hs
  | cons c r => rfl
theorem tokenM_ext (t : Str) {s : Str} (hs : s ≠ []) (h : (tokenM s).e = 0) : tokenM (s ++ 10 :: t) = tokenM s := by
  cases s with
  | nil => exact absurd rfl hs
  | cons c r =>
    have hp : ∀ p : UInt8 → Bool, p 10 = false → plain3 (c :: (r ++ 10 :: t)) (rowN p (c :: (r ++ 10 :: t))) = plain3 (c :: r) (rowN p (c :: r)) := by
      intro p h10
      have e1 : rowN p (c :: (r ++ 10 :: t)) = rowN p (c :: r) := rowN_ext h10 t (c :: r)
      have e2 : plainM (c :: (r ++ 10 :: t)) (rowN p (c :: r)) = plainM (c :: r) (rowN p (c :: r)) := plainM_ext t (s := c :: r) (by simp) (rowN_le p _)
      simp only [plain3, e1, e2]
    rw [List.cons_append]
    simp only [tokenM] at h ⊢
    split
    · rename_i h1
      rw [if_pos h1] at h
      exact quoteF_ext t _ _ _ _ _ h (by simp)
    · rename_i h1
      rw [if_neg h1] at h
      split
      · exact hp smallB (by decide)
      · rename_i h2
        rw [if_neg h2] at h
        split
        · exact hp greatB (by decide)
        · rename_i h3
          rw [if_neg h3] at h
          split
          · exact hp digitB (by decide)
          · exact signF_ext t signsL (c :: r) (by decide)
theorem tokenM_kind {s : Str} (h : (tokenM s).e = 0) : (tokenM s).t.kind ≠ 6 := by
  have hsign : ∀ l s, (signF l s).e = 0 → (signF l s).t.kind ≠ 6 := by
    intro l
    induction l with
    | nil => intro s h; simp [signF] at h
    | cons x l ih =>
      intro s h
      unfold signF at h ⊢
      split
      · simp
      · rename_i hp
        rw [if_neg hp] at h
        exact ih s h
  have hquote : ∀ m rest out a, (quoteF m rest out a).e = 0 → (quoteF m rest out a).t.kind ≠ 6 := by
    intro m
    induction m with
    | zero => intro rest out a h; simp [quoteF] at h
    | succ m ih =>
      intro rest out a h
      unfold quoteF at h ⊢
      split at h
      · simp at h
      · rename_i h1
        rw [if_neg h1]
        simp only at h ⊢
        split
        · rename_i h2
          rw [if_pos h2] at h
          exact ih _ _ _ h
        · rename_i h2
          rw [if_neg h2] at h
          split
          · rename_i h3
            rw [if_pos h3] at h
            simp at h
          · simp
  have hplain : ∀ c r n, (plainM (c :: r) n).1.kind ≠ 6 := by
    intro c r n
    unfold plainM
    (repeat' split) <;> simp_all
  cases s with
  | nil => simp [tokenM] at h
  | cons c r =>
    simp only [tokenM] at h ⊢
    split
    · rename_i h1
      rw [if_pos h1] at h
      exact hquote _ _ _ _ h
    · rename_i h1
      rw [if_neg h1] at h
      split
      · exact hplain _ _ _
      · rename_i h2
        rw [if_neg h2] at h
        split
        · exact hplain _ _ _
        · rename_i h3
          rw [if_neg h3] at h
          split
          · exact hplain _ _ _
          · rename_i h4
            rw [if_neg h4] at h
            exact hsign _ _ h

theorem lexF_fuel : ∀ (n m : Nat) (rest : Str) (a : Nat) (acc : List Tok), rest.length < n → rest.length < m → lexF n rest a acc = lexF m rest a acc
  | 0, m, rest, a, acc, h, _ => by omega
  | n + 1, 0, rest, a, acc, _, h => by omega
  | n + 1, m + 1, rest, a, acc, h, h' => by
    unfold lexF
    split
    · rfl
    · rename_i h1
      split
      · rfl
      · rename_i h2
        have := tokenM_le h1 (by simpa using h2)
        simp only [List.length_drop] at this
        exact lexF_fuel n m _ _ _ (by simp only [List.length_drop]; omega) (by simp only [List.length_drop]; omega)
def endT (a : Nat) : Tok := ⟨6, [], 0, (a : Int)⟩
theorem lexF_ext (t : Str) : ∀ (n : Nat) (rest : Str) (a : Nat) (acc : List Tok), rest.length < n → (lexF n rest a acc).2.c = 0 → (∀ x ∈ acc, x.kind ≠ 6) → ∀ m, rest.length + 1 + t.length < m →
    ∃ pre, lexF n rest a acc = (pre ++ [endT (a + rest.length)], ⟨0, 0⟩) ∧ (∀ x ∈ pre, x.kind ≠ 6) ∧ lexF m (rest ++ 10 :: t) a acc = lexF (t.length + 1) t (a + rest.length + 1) pre
  | 0, rest, a, acc, h, _, _, m, _ => by omega
  | n + 1, rest, a, acc, h, hc, hacc, 0, hm => by omega
  | n + 1, rest, a, acc, h, hc, hacc, m + 1, hm => by
    have hbl := blankN_le rest
    have hbe := blankN_ext t rest.length rest (Nat.le_refl _)
    by_cases h1 : rest.drop (blankN rest) = []
    · have hk : blankN rest = rest.length := by
        have := congrArg List.length h1
        simp at this
        omega
      refine ⟨acc, ?_, hacc, ?_⟩
      · unfold lexF
        rw [if_pos h1, hk]
        rfl
      · rw [if_pos hk] at hbe
        have hd : (rest ++ 10 :: t).drop (rest.length + 1 + blankN t) = t.drop (blankN t) := by
          rw [Nat.add_assoc, ← List.drop_drop, List.drop_left', Nat.add_comm 1, List.drop_succ_cons]
          rfl
        have hd2 : ∀ j, (rest ++ 10 :: t).drop (rest.length + 1 + blankN t + j) = t.drop (blankN t + j) := fun j => by rw [← List.drop_drop, hd, List.drop_drop]
        conv => lhs; unfold lexF
        conv => rhs; unfold lexF
        rw [hbe, hd]
        rw [show a + (rest.length + 1 + blankN t) = a + rest.length + 1 + blankN t from by omega]
        split
        · rfl
        · rename_i h2
          split
          · rfl
          · rename_i h3
            have := tokenM_le h2 (by simpa using h3)
            simp only [List.length_drop] at this
            rw [hd2]
            exact lexF_fuel m t.length _ _ _ (by simp only [List.length_drop]; omega) (by simp only [List.length_drop]; omega)
    · have hk : blankN rest ≠ rest.length := fun e => h1 (by rw [e]; exact List.drop_length)
      rw [if_neg hk] at hbe
      unfold lexF at hc
      rw [if_neg h1] at hc
      by_cases h2 : (tokenM (rest.drop (blankN rest))).e ≠ 0
      · rw [if_pos h2] at hc
        exact absurd hc h2
      rw [if_neg h2] at hc
      have h2' : (tokenM (rest.drop (blankN rest))).e = 0 := by simpa using h2
      have hle := tokenM_le h1 h2'
      simp only [List.length_drop] at hle
      have hacc' : ∀ x ∈ acc ++ [{ (tokenM (rest.drop (blankN rest))).t with at_ := ((a + blankN rest : Nat) : Int) }], x.kind ≠ 6 := by
        intro x hx
        rcases List.mem_append.1 hx with hx | hx
        · exact hacc x hx
        · simp only [List.mem_singleton] at hx
          subst hx
          exact tokenM_kind h2'
      obtain ⟨pre, e1, e2, e3⟩ := lexF_ext t n _ _ _ (by simp only [List.length_drop]; omega) hc hacc' m (by simp only [List.length_drop]; omega)
      have hlen : ((rest.drop (blankN rest + (tokenM (rest.drop (blankN rest))).n)).length) = rest.length - (blankN rest + (tokenM (rest.drop (blankN rest))).n) := by simp
      refine ⟨pre, ?_, e2, ?_⟩
      · unfold lexF
        rw [if_neg h1, if_neg h2, e1, hlen]
        congr 4
        omega
      · have hd : (rest ++ 10 :: t).drop (blankN rest) = rest.drop (blankN rest) ++ 10 :: t := List.drop_append_of_le_length hbl
        have htk : tokenM ((rest ++ 10 :: t).drop (blankN rest)) = tokenM (rest.drop (blankN rest)) := by rw [hd]; exact tokenM_ext t h1 h2'
        conv => lhs; unfold lexF
        rw [hbe, htk, if_neg (by rw [hd]; simp), if_neg h2, List.drop_append_of_le_length (by omega), e3, hlen]
        congr 1
        omega
def shT (d : Nat) (t : Tok) : Tok := { t with at_ := t.at_ + (d : Int) }
theorem lexF_shift (d : Nat) (P : List Tok) : ∀ (n : Nat) (rest : Str) (a : Nat) (acc : List Tok), rest.length < n → (lexF n rest a acc).2.c = 0 → lexF n rest (a + d) (P ++ acc.map (shT d)) = (P ++ (lexF n rest a acc).1.map (shT d), ⟨0, 0⟩)
  | 0, rest, a, acc, h0, h => by omega
  | n + 1, rest, a, acc, h0, h => by
    unfold lexF at h ⊢
    split
    · rename_i h1
      simp [shT]
      omega
    · rename_i h1
      rw [if_neg h1] at h
      split
      · rename_i h2
        rw [if_pos h2] at h
        exact absurd h h2
      · rename_i h2
        rw [if_neg h2] at h
        have hle := tokenM_le h1 (by simpa using h2)
        simp only [List.length_drop] at hle
        have := lexF_shift d P n _ _ _ (by simp only [List.length_drop]; omega) h
        rw [← this]
        congr 1
        · omega
        · simp [shT]
          omega
end Go.Proofs.Ytolhbjfaahcekaa
end
section
/- Two expressions compared. -/
set_option linter.unusedVariables false
set_option linter.unusedSimpArgs false
namespace Go.Proofs.Ytolhbjfaahcekaa
open Go

def vlEq (a b : Vl) : Bool := a.k == b.k && (a.n == b.n && (a.t == b.t && true))
mutual
def sameM : Ex → Ex → Bool
  | .mk k o t n v l, .mk k' o' t' n' v' l' => k == k' && (o == o' && (t == t' && (n == n' && (vlEq v v' && samesM l l'))))
def samesM : List Ex → List Ex → Bool
  | [], [] => true
  | x :: xs, y :: ys => sameM x y && samesM xs ys
  | _, _ => false
end
theorem samesM_len : ∀ {l m : List Ex}, l.length ≠ m.length → samesM l m = false
  | [], [], h => absurd rfl h
  | [], _ :: _, _ => rfl
  | _ :: _, [], _ => rfl
  | x :: xs, y :: ys, h => by
    simp only [samesM, samesM_len (l := xs) (m := ys) (by simpa using h), Bool.and_false]
def exsPV (l : List Ex) : PV := .list 8 (exPVs l) .no
theorem exsPV_clean (l : List Ex) : PV.clean 0 0 (exsPV l) = true := by simp [exsPV, PV.clean, exs_clean]
theorem exPVs_get {l : List Ex} {i : Nat} (h : i < l.length) : (exPVs l)[i]? = some (exPV l[i]) := by
  rw [exPVs_eq, List.getElem?_map, List.getElem?_eq_getElem h]
  rfl
theorem exPVs_len (l : List Ex) : (exPVs l).length = l.length := by rw [exPVs_eq, List.length_map]
theorem exPV_isAgg (e : Ex) : (exPV e).isAgg = true := rfl
attribute [go_sem] exPVs_len exPV_isAgg
theorem sames_of {l : List Ex} (h : ∀ x ∈ l, ∀ y, Pure Try.prog 7 [exPV x, exPV y] (.bool (sameM x y))) (m : List Ex) (hl : l.length ≤ 1000000000000000) :
    Pure Try.prog 12 [exsPV l, exsPV m] (.bool (samesM l m)) := by
  unfold exsPV
  refine PC.intro tab_ok Try.func12 rfl (by kernel_rfl) Try.ntmps12 (Nat.le_of_ble_eq_true rfl) (rs := _) (congrArg Array.toList Try.results12) ?_
  (repeat (refine PW.go tab_ok [] fun K hK => ?_; simp only [go_sem, ↓reduceIte, reduceCtorEq, Nat.reduceBEq, Nat.reduceAdd, Nat.reduceMul, Nat.reduceSub, Nat.reduceLT, Nat.reduceLeDiff, Nat.reduceEqDiff]; (refine hK _ _ ?_; clear hK K)))
  refine PW.seq_k fun K0 hK0 => ?_
  refine PW.go tab_ok [] fun K hK => ?_
  simp only [go_sem, ↓reduceIte, reduceCtorEq, Nat.reduceBEq, Nat.reduceAdd, Nat.reduceMul, Nat.reduceSub, Nat.reduceLT, Nat.reduceLeDiff, Nat.reduceEqDiff]
  (refine hK _ _ ?_; (try clear hK); (try clear K))
  refine PW.cond_split (b := (l.length : Int) != (m.length : Int)) rfl ?_ ?_ <;> intro hb
  · have hne : l.length ≠ m.length := by
      have : (l.length : Int) ≠ (m.length : Int) := by simpa using hb
      omega
    (repeat (refine PW.go tab_ok [] fun K hK => ?_; simp only [go_sem, ↓reduceIte, reduceCtorEq, Nat.reduceBEq, Nat.reduceAdd, Nat.reduceMul, Nat.reduceSub, Nat.reduceLT, Nat.reduceLeDiff, Nat.reduceEqDiff]; (refine hK _ _ ?_; clear hK K)))
    exact PW.ret (Pure.ret rfl (by rw [samesM_len hne]; rfl) rfl)
  have heq : l.length = m.length := by
    have : (l.length : Int) = (m.length : Int) := by simpa using hb
    omega
  refine PW.skip (hK0 _ _ ?_); clear hK0 K0
  refine PW.seq_k fun K0 hK0 => ?_
  refine PW.go tab_ok [] fun K hK => ?_
  simp only [go_sem, ↓reduceIte, reduceCtorEq, Nat.reduceBEq, Nat.reduceAdd, Nat.reduceMul, Nat.reduceSub, Nat.reduceLT, Nat.reduceLeDiff, Nat.reduceEqDiff]
  (refine hK _ _ ?_; (try clear hK); (try clear K))
  refine PW.block (PW.loop (α := Nat) (fun k => [(5, .int .i64 (k : Int)), (0, .list 8 (exPVs l) .no), (1, .list 8 (exPVs m) .no)]) (fun _ => ⟨[], []⟩)
    (fun k => k ≤ l.length ∧ samesM l m = samesM (l.drop k) (m.drop k)) (fun k => l.length - k) 0 ⟨Nat.zero_le _, rfl⟩ ?_ rfl (fun _ _ => ⟨rfl, rfl⟩) ?_)
  · simp [Sub, eget]
  rintro k ⟨hk, he⟩
  refine PW.seq_k fun K2 hK2 => ?_
  refine PW.go tab_ok [] fun K hK => ?_
  simp only [go_sem, ↓reduceIte, reduceCtorEq, Nat.reduceBEq, Nat.reduceAdd, Nat.reduceMul, Nat.reduceSub, Nat.reduceLT, Nat.reduceLeDiff, Nat.reduceEqDiff]
  (refine hK _ _ ?_; (try clear hK); (try clear K))
  refine PW.cond_split (b := decide ((k : Int) < (l.length : Int))) rfl ?_ ?_ <;> intro hc
  · have hlt : k < l.length := by simpa using hc
    have hltm : k < m.length := by omega
    have h0 : (0 : Int) ≤ (k : Int) := by omega
    have hg1 := exPVs_get hlt
    have hg2 := exPVs_get hltm
    rw [List.drop_eq_getElem_cons hlt, List.drop_eq_getElem_cons hltm] at he
    have hpc := h l[k] (List.getElem_mem hlt) m[k]
    refine PW.skip (hK2 _ _ ?_)
    clear hK2
    refine PW.seq_k fun K3 hK3 => PW.block ?_
    generalize l[k] = x at hg1 he hpc
    generalize m[k] = y at hg2 he hpc
    simp only [samesM] at he
    refine PW.draws tab_ok mixed [] [(0, []), (1, []), (2, []), (3, []), (4, []), (5, []), (6, []), (7, []), (8, []), (9, [])] (by kernel_rfl) fun K hK => ?_
    simp only [h0, Int.toNat_natCast, hg1, hg2, agg_exC, go_sem, ↓reduceIte, reduceCtorEq, Nat.reduceBEq, Nat.reduceAdd, Nat.reduceMul, Nat.reduceSub, Nat.reduceLT, Nat.reduceLeDiff, Nat.reduceEqDiff]
    refine hpc.use (Weaks.refl _) (by simp [PVs.clean, exPV_clean]) rfl ?_
    refine GO.go tab_ok ?_
    simp only [go_sem, ↓reduceIte, reduceCtorEq, Nat.reduceBEq, Nat.reduceAdd, Nat.reduceMul, Nat.reduceSub, Nat.reduceLT, Nat.reduceLeDiff, Nat.reduceEqDiff]
    (refine hK _ _ ?_; (try clear hK); (try clear K))
    refine PW.go tab_ok [] fun K hK => ?_
    simp only [go_sem, ↓reduceIte, reduceCtorEq, Nat.reduceBEq, Nat.reduceAdd, Nat.reduceMul, Nat.reduceSub, Nat.reduceLT, Nat.reduceLeDiff, Nat.reduceEqDiff]
    (refine hK _ _ ?_; (try clear hK); (try clear K))
    refine PW.cond_split (b := !sameM x y) rfl ?_ ?_ <;> intro hb2
    · have hs : sameM x y = false := by simpa using hb2
      (repeat (refine PW.go tab_ok [] fun K hK => ?_; simp only [go_sem, ↓reduceIte, reduceCtorEq, Nat.reduceBEq, Nat.reduceAdd, Nat.reduceMul, Nat.reduceSub, Nat.reduceLT, Nat.reduceLeDiff, Nat.reduceEqDiff]; (refine hK _ _ ?_; clear hK K)))
      exact PW.ret (Pure.ret rfl (by rw [he, hs]; rfl) rfl)
    · have hs : sameM x y = true := by simpa using hb2
      rw [hs, Bool.true_and] at he
      refine PW.skip (hK3 _ _ ?_)
      have hw : IntKind.i64.wrap ((k : Int) + 1) = ((k + 1 : Nat) : Int) := by
        rw [show (k : Int) + 1 = ((k + 1 : Nat) : Int) from by omega]
        exact wrap_nat (by omega)
      refine PW.goL tab_ok [] fun K hK => ?_
      simp only [go_sem, ↓reduceIte, reduceCtorEq, Nat.reduceBEq, Nat.reduceAdd, Nat.reduceMul, Nat.reduceSub, Nat.reduceLT, Nat.reduceLeDiff, Nat.reduceEqDiff]
      (refine hK _ _ ?_; (try clear hK); (try clear K))
      exact ⟨k + 1, ⟨by omega, he⟩, by omega, by simp [Sub, eget, hw], ⟨by simp, rfl, by simp⟩, by simp [Env.clean, PV.clean, PVs.clean_data (exs_clean l), PVs.clean_data (exs_clean m)]⟩
  · have hge : k = l.length := by
      have : ¬ (k : Int) < (l.length : Int) := by simpa using hc
      omega
    subst hge
    rw [List.drop_length, heq, List.drop_length] at he
    refine PW.exit (hK0 _ _ ?_)
    (repeat (refine PW.go tab_ok [] fun K hK => ?_; simp only [go_sem, ↓reduceIte, reduceCtorEq, Nat.reduceBEq, Nat.reduceAdd, Nat.reduceMul, Nat.reduceSub, Nat.reduceLT, Nat.reduceLeDiff, Nat.reduceEqDiff]; (refine hK _ _ ?_; clear hK K)))
    exact PW.ret (Pure.ret rfl (by rw [he]; rfl) rfl)
theorem exC_eq (k o : Int) (t n : Str) (v : Vl) (l : List Ex) : exC (.mk k o t n v l) = [.int .i64 k, .int .i64 o, .str t, .str n, .int .i64 v.k, .int .i64 v.n, .str v.t, exsPV l] := rfl
set_option maxRecDepth 100000 in
theorem same_of {k o : Int} {t n : Str} {v : Vl} {l : List Ex} (h : ∀ m, Pure Try.prog 12 [exsPV l, exsPV m] (.bool (samesM l m))) (b : Ex) :
    Pure Try.prog 7 [exPV (.mk k o t n v l), exPV b] (.bool (sameM (.mk k o t n v l) b)) := by
  obtain ⟨k', o', t', n', v', l'⟩ := b
  have hm := h l'
  have hz : sameM (.mk k o t n v l) (.mk k' o' t' n' v' l') = (k == k' && (o == o' && (t == t' && (n == n' && (vlEq v v' && samesM l l'))))) := by simp only [sameM]
  refine PC.intro tab_ok Try.func7 rfl (by kernel_rfl) Try.ntmps7 (Nat.le_of_ble_eq_true rfl) (rs := _) (congrArg Array.toList Try.results7) ?_
  (repeat (refine PW.go tab_ok [] fun K hK => ?_; simp only [go_sem, ↓reduceIte, reduceCtorEq, Nat.reduceBEq, Nat.reduceAdd, Nat.reduceMul, Nat.reduceSub, Nat.reduceLT, Nat.reduceLeDiff, Nat.reduceEqDiff]; (refine hK _ _ ?_; clear hK K)))
  refine PW.go tab_ok [] fun K hK => ?_
  generalize h1 : (k == k') = b1 at hz ⊢
  generalize h2 : (o == o') = b2 at hz ⊢
  generalize h3 : (t == t') = b3 at hz ⊢
  generalize h4 : (n == n') = b4 at hz ⊢
  generalize h5 : vlEq v v' = b5 at hz ⊢
  have h5' : (v.k == v'.k && (v.n == v'.n && v.t == v'.t)) = b5 := by rw [← h5]; simp [vlEq]
  cases b1
  · simp only [exC_eq, eqCells, h1, go_sem, ↓reduceIte, reduceCtorEq, Nat.reduceBEq, Nat.reduceAdd, Nat.reduceMul, Nat.reduceSub, Nat.reduceLT, Nat.reduceLeDiff, Nat.reduceEqDiff]
    (refine hK _ _ ?_; (try clear hK); (try clear K))
    exact PW.ret (Pure.ret rfl (by rw [hz]; rfl) rfl)
  cases b2
  · simp only [exC_eq, eqCells, h1, h2, go_sem, ↓reduceIte, reduceCtorEq, Nat.reduceBEq, Nat.reduceAdd, Nat.reduceMul, Nat.reduceSub, Nat.reduceLT, Nat.reduceLeDiff, Nat.reduceEqDiff]
    (refine hK _ _ ?_; (try clear hK); (try clear K))
    exact PW.ret (Pure.ret rfl (by rw [hz]; rfl) rfl)
  cases b3
  · simp only [exC_eq, eqCells, h1, h2, h3, go_sem, ↓reduceIte, reduceCtorEq, Nat.reduceBEq, Nat.reduceAdd, Nat.reduceMul, Nat.reduceSub, Nat.reduceLT, Nat.reduceLeDiff, Nat.reduceEqDiff]
    (refine hK _ _ ?_; (try clear hK); (try clear K))
    exact PW.ret (Pure.ret rfl (by rw [hz]; rfl) rfl)
  cases b4
  · simp only [exC_eq, eqCells, h1, h2, h3, h4, go_sem, ↓reduceIte, reduceCtorEq, Nat.reduceBEq, Nat.reduceAdd, Nat.reduceMul, Nat.reduceSub, Nat.reduceLT, Nat.reduceLeDiff, Nat.reduceEqDiff]
    (refine hK _ _ ?_; (try clear hK); (try clear K))
    exact PW.ret (Pure.ret rfl (by rw [hz]; rfl) rfl)
  cases b5
  · simp only [exC_eq, eqCells, h1, h2, h3, h4, h5', go_sem, ↓reduceIte, reduceCtorEq, Nat.reduceBEq, Nat.reduceAdd, Nat.reduceMul, Nat.reduceSub, Nat.reduceLT, Nat.reduceLeDiff, Nat.reduceEqDiff]
    (refine hK _ _ ?_; (try clear hK); (try clear K))
    exact PW.ret (Pure.ret rfl (by rw [hz]; rfl) rfl)
  simp only [exC_eq, eqCells, h1, h2, h3, h4, h5', go_sem, ↓reduceIte, reduceCtorEq, Nat.reduceBEq, Nat.reduceAdd, Nat.reduceMul, Nat.reduceSub, Nat.reduceLT, Nat.reduceLeDiff, Nat.reduceEqDiff]
  refine hm.use (Weaks.refl _) (by simp [PVs.clean, exsPV_clean]) rfl ?_
  refine PO.go tab_ok [] ?_
  simp only [go_sem, ↓reduceIte, reduceCtorEq, Nat.reduceBEq, Nat.reduceAdd, Nat.reduceMul, Nat.reduceSub, Nat.reduceLT, Nat.reduceLeDiff, Nat.reduceEqDiff]
  (refine hK _ _ ?_; (try clear hK); (try clear K))
  exact PW.ret (Pure.ret rfl (by rw [hz]; simp [resPV]) rfl)
/-! ### How many arguments at most, anywhere -/
mutual
def Ex.few (n : Nat) : Ex → Bool
  | .mk _ _ _ _ _ l => decide (l.length ≤ n) && Exs.few n l
def Exs.few (n : Nat) : List Ex → Bool
  | [] => true
  | x :: xs => Ex.few n x && Exs.few n xs
end
mutual
theorem same_pc : ∀ (a b : Ex), Ex.few 1000000000000000 a = true → Pure Try.prog 7 [exPV a, exPV b] (.bool (sameM a b))
  | .mk k o t n v l, b, h => by
    simp only [Ex.few, Bool.and_eq_true, decide_eq_true_eq] at h
    exact same_of (fun m => sames_of (fun x hx y => same_all l h.2 x hx y) m h.1) b
theorem same_all : ∀ (l : List Ex), Exs.few 1000000000000000 l = true → ∀ x ∈ l, ∀ y, Pure Try.prog 7 [exPV x, exPV y] (.bool (sameM x y))
  | [], _, x, hx, y => by simp at hx
  | e :: es, h, x, hx, y => by
    simp only [Exs.few, Bool.and_eq_true] at h
    rcases List.mem_cons.1 hx with hx | hx
    · rw [hx]; exact same_pc e y h.1
    · exact same_all es h.2 x hx y
end
theorem sames_pc (l m : List Ex) (h : Exs.few 1000000000000000 l = true) (hl : l.length ≤ 1000000000000000) : Pure Try.prog 12 [exsPV l, exsPV m] (.bool (samesM l m)) := sames_of (same_all l h) m hl
end Go.Proofs.Ytolhbjfaahcekaa
end
section
/- vestrylaw09: its small case, its statements' runs. -/
set_option linter.unusedVariables false
set_option linter.unusedSimpArgs false
namespace Go.Proofs.Ytolhbjfaahcekaa
open Go

def smTree : Ex := .mk 3 9 [] [] v0 [.mk 1 0 [] [] ⟨1, 1, []⟩ [], .mk 3 11 [] [] v0 [.mk 1 0 [] [] ⟨1, 2, []⟩ [], .mk 1 0 [] [] ⟨1, -3, []⟩ []]]
set_option maxRecDepth 100000 in
theorem sm_one : oneS [49, 32, 43, 32, 50, 32, 42, 32, 45, 51] = (smTree, ⟨0, 0⟩) := by kernel_rfl
set_option maxRecDepth 100000 in
theorem sm_script : scriptS [83, 69, 76, 69, 67, 84, 32, 42, 32, 70, 82, 79, 77, 32, 116, 32, 76, 73, 77, 73, 84, 32, 50] = ([⟨6, [116], [], [], [], [], [⟨1, []⟩], [], [], [], [], [], false, 2⟩], ⟨0, 0⟩) := by kernel_rfl
set_option maxRecDepth 100000 in
set_option maxHeartbeats 1000000 in
theorem lawSmall_pc : Pure Try.prog 5 [] (.bool true) := by
  have h1 := Script_pc [83, 69, 76, 69, 67, 84, 32, 42, 32, 70, 82, 79, 77, 32, 116, 32, 76, 73, 77, 73, 84, 32, 50]
  have h2 := One_pc [49, 32, 43, 32, 50, 32, 42, 32, 45, 51]
  rw [sm_script] at h1
  rw [sm_one] at h2
  refine PC.intro tab_ok Try.func5 rfl (by kernel_rfl) Try.ntmps5 (Nat.le_of_ble_eq_true rfl) (rs := _) (congrArg Array.toList Try.results5) ?_
  refine PW.go tab_ok [] fun K hK => ?_
  simp only [go_sem, ↓reduceIte, reduceCtorEq, Nat.reduceBEq, Nat.reduceAdd, Nat.reduceMul, Nat.reduceSub, Nat.reduceLT, Nat.reduceLeDiff, Nat.reduceEqDiff]
  (refine hK _ _ ?_; (try clear hK); (try clear K))
  refine PW.go tab_ok [] fun K hK => ?_
  simp only [go_sem, ↓reduceIte, reduceCtorEq, Nat.reduceBEq, Nat.reduceAdd, Nat.reduceMul, Nat.reduceSub, Nat.reduceLT, Nat.reduceLeDiff, Nat.reduceEqDiff]
  refine h1.use (Weaks.refl _) rfl rfl ?_
  refine PO.go tab_ok [] ?_
  simp only [ftPV, stmsPV, List.map_cons, List.map_nil, go_sem, ↓reduceIte, reduceCtorEq, Nat.reduceBEq, Nat.reduceAdd, Nat.reduceMul, Nat.reduceSub, Nat.reduceLT, Nat.reduceLeDiff, Nat.reduceEqDiff]
  (refine hK _ _ ?_; (try clear hK); (try clear K))
  refine PW.go tab_ok [] fun K hK => ?_
  simp only [go_sem, ↓reduceIte, reduceCtorEq, Nat.reduceBEq, Nat.reduceAdd, Nat.reduceMul, Nat.reduceSub, Nat.reduceLT, Nat.reduceLeDiff, Nat.reduceEqDiff]
  refine h2.use (Weaks.refl _) rfl rfl ?_
  refine PO.go tab_ok [] ?_
  simp only [ftPV, smTree, exPV, exC, exPVs, go_sem, ↓reduceIte, reduceCtorEq, Nat.reduceBEq, Nat.reduceAdd, Nat.reduceMul, Nat.reduceSub, Nat.reduceLT, Nat.reduceLeDiff, Nat.reduceEqDiff]
  (refine hK _ _ ?_; (try clear hK); (try clear K))
  refine PW.go tab_ok [] fun K hK => ?_
  simp only [eqCells, stPV1, stC, Int.toNat_zero, Int.toNat_one, go_sem, ↓reduceIte, reduceCtorEq, Nat.reduceBEq, Nat.reduceAdd, Nat.reduceMul, Nat.reduceSub, Nat.reduceLT, Nat.reduceLeDiff, Nat.reduceEqDiff]
  (refine hK _ _ ?_; (try clear hK); (try clear K))
  exact PW.ret (Pure.ret rfl rfl rfl)
end Go.Proofs.Ytolhbjfaahcekaa
end
section
/- vestrylaw09: the runs of ParseEmpty and ParseBrackets, over what the readers give. -/
set_option linter.unusedVariables false
set_option linter.unusedSimpArgs false
namespace Go.Proofs.Ytolhbjfaahcekaa
open Go

/-- What ParseEmpty says of the readers. -/
structure EmptyLaw (s : Str) : Prop where
  none : (scriptS s).2.c ≠ 0 → (scriptS s).1 = []
  some : (scriptS s).2.c = 0 → s.length ≤ 1980 → 1 ≤ (scriptS s).1.length ∧ (scriptS s).1.length ≤ 8 ∧
    (scriptS (s ++ [10, 41, 32])).1 = [] ∧ (scriptS (s ++ [10, 41, 32])).2.c = 4 ∧ (scriptS (s ++ [10, 41, 32])).2.a = ((s.length + 1 : Nat) : Int) ∧
    (scriptS (s ++ [10, 59])).1 = [] ∧ (scriptS (s ++ [10, 59])).2.a = ((s.length + 2 : Nat) : Int) ∧ ((scriptS (s ++ [10, 59])).2.c = 4 ∨ (scriptS (s ++ [10, 59])).2.c = 2 ∧ (scriptS s).1.length = 8)
set_option maxRecDepth 100000 in
set_option maxHeartbeats 2000000 in
theorem empty_pc (s word : Str) (h : EmptyLaw s) : Pure Try.prog 4 [.str s, .str word] (.bool true) := by
  obtain ⟨hn, hs⟩ := h
  have p1 := Script_pc s
  have p2 := Script_pc (s ++ [10, 41, 32])
  have p3 := Script_pc (s ++ [10, 59])
  have c1 := stms_clean (scriptS s).1
  have c2 := stms_clean (scriptS (s ++ [10, 41, 32])).1
  have c3 := stms_clean (scriptS (s ++ [10, 59])).1
  generalize scriptS s = z at hn hs p1 c1
  generalize scriptS (s ++ [10, 41, 32]) = z2 at hs p2 c2
  generalize scriptS (s ++ [10, 59]) = z3 at hs p3 c3
  obtain ⟨l, f, fa⟩ := z
  obtain ⟨m, g, ga⟩ := z2
  obtain ⟨k, e, ea⟩ := z3
  simp only [ftPV] at hn hs p1 p2 p3 c1 c2 c3
  refine PC.intro tab_ok Try.func4 rfl (by kernel_rfl) Try.ntmps4 (Nat.le_of_ble_eq_true rfl) (rs := _) (congrArg Array.toList Try.results4) ?_
  (repeat (refine PW.go tab_ok [] fun K hK => ?_; simp only [go_sem, ↓reduceIte, reduceCtorEq, Nat.reduceBEq, Nat.reduceAdd, Nat.reduceMul, Nat.reduceSub, Nat.reduceLT, Nat.reduceLeDiff, Nat.reduceEqDiff]; (refine hK _ _ ?_; clear hK K)))
  refine PW.go tab_ok [] fun K hK => ?_
  simp only [go_sem, ↓reduceIte, reduceCtorEq, Nat.reduceBEq, Nat.reduceAdd, Nat.reduceMul, Nat.reduceSub, Nat.reduceLT, Nat.reduceLeDiff, Nat.reduceEqDiff]
  refine lawSmall_pc.use (Weaks.refl _) rfl rfl ?_
  refine PO.go tab_ok [] ?_
  simp only [go_sem, ↓reduceIte, reduceCtorEq, Nat.reduceBEq, Nat.reduceAdd, Nat.reduceMul, Nat.reduceSub, Nat.reduceLT, Nat.reduceLeDiff, Nat.reduceEqDiff]
  (refine hK _ _ ?_; (try clear hK); (try clear K))
  refine PW.go tab_ok [] fun K hK => ?_
  simp only [go_sem, ↓reduceIte, reduceCtorEq, Nat.reduceBEq, Nat.reduceAdd, Nat.reduceMul, Nat.reduceSub, Nat.reduceLT, Nat.reduceLeDiff, Nat.reduceEqDiff]
  refine p1.use (Weaks.refl _) rfl (by simp only [PV.clean, PVs.clean, c1]; rfl) ?_
  refine PO.go tab_ok [] ?_
  simp only [stmsPV, go_sem, ↓reduceIte, reduceCtorEq, Nat.reduceBEq, Nat.reduceAdd, Nat.reduceMul, Nat.reduceSub, Nat.reduceLT, Nat.reduceLeDiff, Nat.reduceEqDiff]
  (refine hK _ _ ?_; (try clear hK); (try clear K))
  refine PW.seq_k fun K0 hK0 => ?_
  refine PW.go tab_ok [] fun K hK => ?_
  by_cases hf : f = 0
  rotate_left
  · have hf1 : (f != 0) = true := by simpa using hf
    have hf2 : (f == 0) = false := by simpa using hf
    have hl := hn hf
    subst hl
    simp only [hf1, go_sem, ↓reduceIte, reduceCtorEq, Nat.reduceBEq, Nat.reduceAdd, Nat.reduceMul, Nat.reduceSub, Nat.reduceLT, Nat.reduceLeDiff, Nat.reduceEqDiff]
    (refine hK _ _ ?_; (try clear hK); (try clear K))
    refine PW.cond_split (b := true) rfl ?_ ?_ <;> intro hb
    · refine PW.go tab_ok [] fun K hK => ?_
      simp only [hf2, go_sem, ↓reduceIte, reduceCtorEq, Nat.reduceBEq, Nat.reduceAdd, Nat.reduceMul, Nat.reduceSub, Nat.reduceLT, Nat.reduceLeDiff, Nat.reduceEqDiff]
      (refine hK _ _ ?_; (try clear hK); (try clear K))
      exact PW.ret (Pure.ret rfl rfl rfl)
    · cases hb
  subst hf
  have hf1 : ((0 : Int) != 0) = false := rfl
  by_cases hlen : (s.length : Int) > 1980
  · have hl1 : decide ((s.length : Int) > 1980) = true := by simpa using hlen
    simp only [hf1, hl1, go_sem, ↓reduceIte, reduceCtorEq, Nat.reduceBEq, Nat.reduceAdd, Nat.reduceMul, Nat.reduceSub, Nat.reduceLT, Nat.reduceLeDiff, Nat.reduceEqDiff]
    (refine hK _ _ ?_; (try clear hK); (try clear K))
    refine PW.cond_split (b := true) rfl ?_ ?_ <;> intro hb
    · refine PW.go tab_ok [] fun K hK => ?_
      simp only [go_sem, ↓reduceIte, reduceCtorEq, Nat.reduceBEq, Nat.reduceAdd, Nat.reduceMul, Nat.reduceSub, Nat.reduceLT, Nat.reduceLeDiff, Nat.reduceEqDiff]
      (refine hK _ _ ?_; (try clear hK); (try clear K))
      exact PW.ret (Pure.ret rfl rfl rfl)
    · cases hb
  have hl1 : decide ((s.length : Int) > 1980) = false := by simpa using hlen
  simp only [hf1, hl1, go_sem, ↓reduceIte, reduceCtorEq, Nat.reduceBEq, Nat.reduceAdd, Nat.reduceMul, Nat.reduceSub, Nat.reduceLT, Nat.reduceLeDiff, Nat.reduceEqDiff]
  (refine hK _ _ ?_; (try clear hK); (try clear K))
  refine PW.cond_split (b := false) rfl ?_ ?_ <;> intro hb
  · cases hb
  clear hb
  refine PW.skip (hK0 _ _ ?_); clear hK0 K0
  obtain ⟨h1, h2, h3, h4, h5, h6, h7, h8⟩ := hs rfl (by omega)
  clear hs hn
  subst h3 h4 h6
  have b1 : s.length + 3 ≤ 9223372036854775807 := by omega
  have b2 : s.length + 2 ≤ 9223372036854775807 := by omega
  have w1 : IntKind.i64.wrap ((s.length : Int) + 1) = ga := by rw [h5, show (s.length : Int) + 1 = ((s.length + 1 : Nat) : Int) from by omega]; exact wrap_nat (by omega)
  have w2 : IntKind.i64.wrap ((s.length : Int) + 2) = ea := by rw [h7, show (s.length : Int) + 2 = ((s.length + 2 : Nat) : Int) from by omega]; exact wrap_nat (by omega)
  have d1 : decide ((l.length : Int) ≥ 1) = true := by simp; omega
  have d2 : decide ((l.length : Int) ≤ 8) = true := by simp; omega
  refine PW.go tab_ok [] fun K hK => ?_
  simp only [b1, go_sem, ↓reduceIte, reduceCtorEq, Nat.reduceBEq, Nat.reduceAdd, Nat.reduceMul, Nat.reduceSub, Nat.reduceLT, Nat.reduceLeDiff, Nat.reduceEqDiff]
  refine p2.use (Weaks.refl _) rfl (by simp only [PV.clean, PVs.clean, c2]; rfl) ?_
  refine PO.go tab_ok [] ?_
  simp only [stmsPV, go_sem, ↓reduceIte, reduceCtorEq, Nat.reduceBEq, Nat.reduceAdd, Nat.reduceMul, Nat.reduceSub, Nat.reduceLT, Nat.reduceLeDiff, Nat.reduceEqDiff]
  (refine hK _ _ ?_; (try clear hK); (try clear K))
  refine PW.go tab_ok [] fun K hK => ?_
  simp only [b2, go_sem, ↓reduceIte, reduceCtorEq, Nat.reduceBEq, Nat.reduceAdd, Nat.reduceMul, Nat.reduceSub, Nat.reduceLT, Nat.reduceLeDiff, Nat.reduceEqDiff]
  refine p3.use (Weaks.refl _) rfl (by simp only [PV.clean, PVs.clean, c3]; rfl) ?_
  refine PO.go tab_ok [] ?_
  simp only [stmsPV, go_sem, ↓reduceIte, reduceCtorEq, Nat.reduceBEq, Nat.reduceAdd, Nat.reduceMul, Nat.reduceSub, Nat.reduceLT, Nat.reduceLeDiff, Nat.reduceEqDiff]
  (refine hK _ _ ?_; (try clear hK); (try clear K))
  refine PW.go tab_ok [] fun K hK => ?_
  rcases h8 with h8 | ⟨h8, h9⟩
  · subst h8
    simp only [d1, d2, w1, w2, eqCells, Bool.and_self, go_sem, ↓reduceIte, reduceCtorEq, Nat.reduceBEq, Nat.reduceAdd, Nat.reduceMul, Nat.reduceSub, Nat.reduceLT, Nat.reduceLeDiff, Nat.reduceEqDiff]
    (refine hK _ _ ?_; (try clear hK); (try clear K))
    exact PW.ret (Pure.ret rfl rfl rfl)
  · subst h8
    have d3 : ((l.length : Int) == 8) = true := by simp [h9]
    simp only [d1, d2, d3, w1, w2, eqCells, Bool.and_self, go_sem, ↓reduceIte, reduceCtorEq, Nat.reduceBEq, Nat.reduceAdd, Nat.reduceMul, Nat.reduceSub, Nat.reduceLT, Nat.reduceLeDiff, Nat.reduceEqDiff]
    (refine hK _ _ ?_; (try clear hK); (try clear K))
    exact PW.ret (Pure.ret rfl rfl rfl)
/-- What ParseBrackets says of the readers. -/
def BracketsLaw (s : Str) : Prop := (oneS s).2.c = 0 → s.length ≤ 1996 → (oneS ([40] ++ s ++ [10, 41])).2.c = 10 ∨ (oneS ([40] ++ s ++ [10, 41])).2.c = 0 ∧ sameM (oneS s).1 (oneS ([40] ++ s ++ [10, 41])).1 = true
set_option maxRecDepth 100000 in
set_option maxHeartbeats 2000000 in
theorem brackets_pc (s : Str) (h : BracketsLaw s) (hfew : Ex.few 1000000000000000 (oneS s).1 = true) : Pure Try.prog 3 [.str s] (.bool true) := by
  have p1 := One_pc s
  have p2 := One_pc ([40] ++ s ++ [10, 41])
  have hsame := same_pc (oneS s).1 (oneS ([40] ++ s ++ [10, 41])).1 hfew
  unfold BracketsLaw at h
  generalize oneS s = z at h p1 hsame
  generalize oneS ([40] ++ s ++ [10, 41]) = z2 at h p2 hsame
  obtain ⟨x, f, fa⟩ := z
  obtain ⟨y, g, ga⟩ := z2
  simp only [ftPV] at h p1 p2 hsame
  refine PC.intro tab_ok Try.func3 rfl (by kernel_rfl) Try.ntmps3 (Nat.le_of_ble_eq_true rfl) (rs := _) (congrArg Array.toList Try.results3) ?_
  (repeat (refine PW.go tab_ok [] fun K hK => ?_; simp only [go_sem, ↓reduceIte, reduceCtorEq, Nat.reduceBEq, Nat.reduceAdd, Nat.reduceMul, Nat.reduceSub, Nat.reduceLT, Nat.reduceLeDiff, Nat.reduceEqDiff]; (refine hK _ _ ?_; clear hK K)))
  refine PW.go tab_ok [] fun K hK => ?_
  simp only [go_sem, ↓reduceIte, reduceCtorEq, Nat.reduceBEq, Nat.reduceAdd, Nat.reduceMul, Nat.reduceSub, Nat.reduceLT, Nat.reduceLeDiff, Nat.reduceEqDiff]
  refine lawSmall_pc.use (Weaks.refl _) rfl rfl ?_
  refine PO.go tab_ok [] ?_
  simp only [go_sem, ↓reduceIte, reduceCtorEq, Nat.reduceBEq, Nat.reduceAdd, Nat.reduceMul, Nat.reduceSub, Nat.reduceLT, Nat.reduceLeDiff, Nat.reduceEqDiff]
  (refine hK _ _ ?_; (try clear hK); (try clear K))
  refine PW.go tab_ok [] fun K hK => ?_
  simp only [go_sem, ↓reduceIte, reduceCtorEq, Nat.reduceBEq, Nat.reduceAdd, Nat.reduceMul, Nat.reduceSub, Nat.reduceLT, Nat.reduceLeDiff, Nat.reduceEqDiff]
  refine p1.use (Weaks.refl _) rfl (by simp [PV.clean, PVs.clean, exPV_clean]) ?_
  refine PO.go tab_ok [] ?_
  simp only [go_sem, ↓reduceIte, reduceCtorEq, Nat.reduceBEq, Nat.reduceAdd, Nat.reduceMul, Nat.reduceSub, Nat.reduceLT, Nat.reduceLeDiff, Nat.reduceEqDiff]
  (refine hK _ _ ?_; (try clear hK); (try clear K))
  refine PW.seq_k fun K0 hK0 => ?_
  refine PW.go tab_ok [] fun K hK => ?_
  by_cases hf : f = 0
  rotate_left
  · have hf1 : (f != 0) = true := by simpa using hf
    simp only [hf1, go_sem, ↓reduceIte, reduceCtorEq, Nat.reduceBEq, Nat.reduceAdd, Nat.reduceMul, Nat.reduceSub, Nat.reduceLT, Nat.reduceLeDiff, Nat.reduceEqDiff]
    (refine hK _ _ ?_; (try clear hK); (try clear K))
    refine PW.cond_split (b := true) rfl ?_ ?_ <;> intro hb
    · (repeat (refine PW.go tab_ok [] fun K hK => ?_; simp only [go_sem, ↓reduceIte, reduceCtorEq, Nat.reduceBEq, Nat.reduceAdd, Nat.reduceMul, Nat.reduceSub, Nat.reduceLT, Nat.reduceLeDiff, Nat.reduceEqDiff]; (refine hK _ _ ?_; clear hK K)))
      exact PW.ret (Pure.ret rfl rfl rfl)
    · cases hb
  subst hf
  have hf1 : ((0 : Int) != 0) = false := rfl
  by_cases hlen : (s.length : Int) > 1996
  · have hl1 : decide ((s.length : Int) > 1996) = true := by simpa using hlen
    simp only [hf1, hl1, go_sem, ↓reduceIte, reduceCtorEq, Nat.reduceBEq, Nat.reduceAdd, Nat.reduceMul, Nat.reduceSub, Nat.reduceLT, Nat.reduceLeDiff, Nat.reduceEqDiff]
    (refine hK _ _ ?_; (try clear hK); (try clear K))
    refine PW.cond_split (b := true) rfl ?_ ?_ <;> intro hb
    · (repeat (refine PW.go tab_ok [] fun K hK => ?_; simp only [go_sem, ↓reduceIte, reduceCtorEq, Nat.reduceBEq, Nat.reduceAdd, Nat.reduceMul, Nat.reduceSub, Nat.reduceLT, Nat.reduceLeDiff, Nat.reduceEqDiff]; (refine hK _ _ ?_; clear hK K)))
      exact PW.ret (Pure.ret rfl rfl rfl)
    · cases hb
  have hl1 : decide ((s.length : Int) > 1996) = false := by simpa using hlen
  simp only [hf1, hl1, go_sem, ↓reduceIte, reduceCtorEq, Nat.reduceBEq, Nat.reduceAdd, Nat.reduceMul, Nat.reduceSub, Nat.reduceLT, Nat.reduceLeDiff, Nat.reduceEqDiff]
  (refine hK _ _ ?_; (try clear hK); (try clear K))
  refine PW.cond_split (b := false) rfl ?_ ?_ <;> intro hb
  · cases hb
  clear hb
  refine PW.skip (hK0 _ _ ?_); clear hK0 K0
  have h' := h rfl (by omega)
  have b1 : 1 + s.length ≤ 9223372036854775807 := by omega
  have b2 : s.length + 1 + 2 ≤ 9223372036854775807 := by omega
  refine PW.go tab_ok [] fun K hK => ?_
  simp only [b1, b2, go_sem, ↓reduceIte, reduceCtorEq, Nat.reduceBEq, Nat.reduceAdd, Nat.reduceMul, Nat.reduceSub, Nat.reduceLT, Nat.reduceLeDiff, Nat.reduceEqDiff]
  refine p2.use (Weaks.refl _) rfl (by simp [PV.clean, PVs.clean, exPV_clean]) ?_
  refine PO.go tab_ok [] ?_
  simp only [go_sem, ↓reduceIte, reduceCtorEq, Nat.reduceBEq, Nat.reduceAdd, Nat.reduceMul, Nat.reduceSub, Nat.reduceLT, Nat.reduceLeDiff, Nat.reduceEqDiff]
  (refine hK _ _ ?_; (try clear hK); (try clear K))
  refine PW.go tab_ok [] fun K hK => ?_
  rcases h' with h' | ⟨h', h9⟩
  · subst h'
    simp only [go_sem, ↓reduceIte, reduceCtorEq, Nat.reduceBEq, Nat.reduceAdd, Nat.reduceMul, Nat.reduceSub, Nat.reduceLT, Nat.reduceLeDiff, Nat.reduceEqDiff]
    (refine hK _ _ ?_; (try clear hK); (try clear K))
    exact PW.ret (Pure.ret rfl rfl rfl)
  · subst h'
    have e1 : ((0 : Int) == 10) = false := rfl
    simp only [e1, go_sem, ↓reduceIte, reduceCtorEq, Nat.reduceBEq, Nat.reduceAdd, Nat.reduceMul, Nat.reduceSub, Nat.reduceLT, Nat.reduceLeDiff, Nat.reduceEqDiff]
    rw [h9] at hsame
    refine hsame.use (Weaks.refl _) (by simp [PVs.clean, exPV_clean]) rfl ?_
    refine PO.go tab_ok [] ?_
    simp only [go_sem, ↓reduceIte, reduceCtorEq, Nat.reduceBEq, Nat.reduceAdd, Nat.reduceMul, Nat.reduceSub, Nat.reduceLT, Nat.reduceLeDiff, Nat.reduceEqDiff]
    (refine hK _ _ ?_; (try clear hK); (try clear K))
    exact PW.ret (Pure.ret rfl rfl rfl)
end Go.Proofs.Ytolhbjfaahcekaa
end
section
/- Plain: what ParseEmpty and ParseBrackets say of the readers. -/
set_option linter.unusedVariables false
set_option linter.unusedSimpArgs false
namespace Go.Proofs.Ytolhbjfaahcekaa

theorem lexM_fine {s : Str} (h : (lexM s).2.c = 0) : s.length ≤ 2000 ∧ lexM s = lexF (s.length + 1) s 0 [] := by
  unfold lexM at h ⊢
  split at h
  · cases h
  · rename_i h1
    rw [if_neg h1]
    exact ⟨by omega, rfl⟩
theorem lexM_ext {s : Str} (h : (lexM s).2.c = 0) : ∃ pre, lexM s = (pre ++ [endT s.length], ⟨0, 0⟩) ∧ (∀ x ∈ pre, x.kind ≠ 6) ∧ ∀ t : Str, s.length + 1 + t.length ≤ 2000 → lexM (s ++ 10 :: t) = lexF (t.length + 1) t (s.length + 1) pre := by
  obtain ⟨h1, h2⟩ := lexM_fine h
  rw [h2] at h
  obtain ⟨pre, e1, e2, _⟩ := lexF_ext [] (s.length + 1) s 0 [] (by omega) h (by simp) (s.length + 2) (by simp)
  refine ⟨pre, by rw [h2, e1, Nat.zero_add], e2, fun t ht => ?_⟩
  obtain ⟨pre', e3, e4, e5⟩ := lexF_ext t (s.length + 1) s 0 [] (by omega) h (by simp) ((s ++ 10 :: t).length + 1) (by simp; omega)
  have hp : pre' = pre := by
    rw [e1] at e3
    exact (List.append_cancel_right (Prod.mk.inj e3).1).symm
  subst hp
  rw [Nat.zero_add] at e5
  rw [← e5]
  unfold lexM
  rw [if_neg (by simp; omega)]
theorem lex_close (a : Nat) (pre : List Tok) : lexF 3 [41, 32] a pre = ((pre ++ [⟨5, [41], 0, (a : Int)⟩]) ++ [endT (a + 2)], ⟨0, 0⟩) := rfl
theorem lex_close1 (a : Nat) (pre : List Tok) : lexF 2 [41] a pre = ((pre ++ [⟨5, [41], 0, (a : Int)⟩]) ++ [endT (a + 1)], ⟨0, 0⟩) := rfl
theorem lex_semi (a : Nat) (pre : List Tok) : lexF 2 [59] a pre = ((pre ++ [⟨5, [59], 0, (a : Int)⟩]) ++ [endT (a + 1)], ⟨0, 0⟩) := rfl
theorem ext_self (Z : List Tok) (E : Tok) (hE : E.kind = 6) : ∀ pre : List Tok, (∀ x ∈ pre, x.kind ≠ 6) → Ext Z (pre ++ [E]) (pre ++ Z)
  | [], _ => .last E hE
  | x :: pre, h => .cons x x _ _ (h x (by simp)) ⟨rfl, rfl, rfl⟩ (ext_self Z E hE pre fun y hy => h y (by simp [hy]))
theorem ext_shift (Z : List Tok) (E : Tok) (hE : E.kind = 6) (d : Nat) : ∀ pre : List Tok, (∀ x ∈ pre, x.kind ≠ 6) → Ext Z (pre ++ [E]) (pre.map (shT d) ++ Z)
  | [], _ => .last E hE
  | x :: pre, h => .cons x (shT d x) _ _ (h x (by simp)) ⟨rfl, rfl, rfl⟩ (ext_shift Z E hE d pre fun y hy => h y (by simp [hy]))
theorem zt_two {x E : Tok} (hx : x.kind = 5) (ht : x.text = [41] ∨ x.text = [59]) (hE : E.kind = 6) : Zt [x, E] :=
  ⟨⟨by simp, .inl hx, [x], E, rfl, hE⟩, .inr ht⟩

/-! ### Scripts -/
def scrN (n : Nat) (out : List Stm) : R → List Stm × R := scrL n out
theorem Gd.scr {Z : List Tok} (hz : Zt Z) (h59 : Zno Z [[59]]) : ∀ (n : Nat) (out : List Stm), Gd Z 0 0 (scrL n out) (scrL n out)
  | 0, out => Gd.ret out
  | n + 1, out => by
    have h := (Gd.ite (Z := Z) (D := 0) (d := 0) (c := out.length = 8) (Gd.fail 2 (by decide)) (Gd.ret ())).bnd fun _ => (Gd.state hz).bnd fun s => (Gd.has hz.toZok h59).bnd fun b => Gd.ite (c := b = true) (Gd.scr hz h59 n (out ++ [s])) (Gd.ret (out ++ [s]))
    have e : ∀ r, scrL (n + 1) out r = _ := fun r => by
      show scrL (n + 1) out r = (bndM (if out.length = 8 then fail' 2 else retM ()) fun _ => bndM stateM fun s => bndM (hasM [59]) fun b => if b = true then scrL n (out ++ [s]) else retM (out ++ [s])) r
      unfold scrL
      have e1 : (if out.length = 8 then fail' 2 else retM ()) r = ((), if out.length = 8 then failM 2 r else r) := by split <;> rfl
      simp only [bndM, e1, retM, ite_app]
    exact h.of_eq e e
theorem endM_zero {r : R} (h : (endM r).c = 0) : r.c = 0 ∧ (hd r).kind = 6 := by
  unfold endM at h
  split at h
  · exact absurd h (failM_c 4 r (by decide))
  · rename_i hn
    refine ⟨h, ?_⟩
    by_cases h6 : (hd r).kind = 6
    · exact h6
    · exact absurd ⟨h, h6⟩ hn
theorem scrL_len : ∀ (n : Nat) (out : List Stm) (r : R), 1 ≤ n → out.length ≤ 8 → n + out.length = 9 → (scrL n out r).2.c = 0 → 1 ≤ (scrL n out r).1.length ∧ (scrL n out r).1.length ≤ 8
  | 0, out, r, h, _, _, _ => by omega
  | n + 1, out, r, h1, h8, hn, hc => by
    unfold scrL at hc ⊢
    have hbad : out.length = 8 → (stateM (if out.length = 8 then failM 2 r else r)).2.c ≠ 0 := fun h => by
      rw [if_pos h]
      have := failM_c 2 r (by decide)
      rw [stateM_bad this]
      exact this
    generalize (if out.length = 8 then failM 2 r else r) = q at hc hbad ⊢
    by_cases h88 : out.length = 8
    · have hb := hbad h88
      rw [hasM_bad hb] at hc
      exact absurd hc hb
    · split
      · rename_i hh
        rw [if_pos hh] at hc
        exact scrL_len n _ _ (by omega) (by simp; omega) (by simp; omega) hc
      · simp only [List.length_append, List.length_cons, List.length_nil]
        omega
theorem sim_start {Z : List Tok} {pre : List Tok} (h : ∀ x ∈ pre, x.kind ≠ 6) (E : Tok) (hE : E.kind = 6) : Sim Z 0 0 ⟨pre ++ [E], 0, 0, 0⟩ ⟨pre ++ Z, 0, 0, 0⟩ := ⟨ext_self Z E hE pre h, rfl, rfl, rfl, rfl⟩
/-- Behind a script a ) is at fault. -/
theorem scr_close {pre : List Tok} (h : ∀ x ∈ pre, x.kind ≠ 6) (a b c : Nat) (hc : (endM (scrL 9 [] ⟨pre ++ [endT a], 0, 0, 0⟩).2).c = 0) :
    (endM (scrL 9 [] ⟨(pre ++ [⟨5, [41], 0, (b : Int)⟩]) ++ [endT c], 0, 0, 0⟩).2).c = 4 ∧ (endM (scrL 9 [] ⟨(pre ++ [⟨5, [41], 0, (b : Int)⟩]) ++ [endT c], 0, 0, 0⟩).2).a = b := by
  obtain ⟨h1, h2⟩ := endM_zero hc
  have hz : Zt [⟨5, [41], 0, (b : Int)⟩, endT c] := zt_two rfl (.inl rfl) rfl
  have hg := (Gd.scr hz (.inr (show ([41] : Str) ∉ ([[59]] : List Str) by decide)) 9 []).sim _ _ (sim_start h (endT a) rfl)
  rw [List.append_assoc]
  rcases hg with hg | hg | ⟨_, hs⟩
  · exact absurd h1 hg
  · exact absurd rfl hg.1
  · rcases hs.hd_cases hz.toZok with ⟨h6, _⟩ | ⟨_, hq, _⟩
    · exact absurd h2 h6
    · have hq5 : (hd (scrL 9 [] ⟨pre ++ ([⟨5, [41], 0, (b : Int)⟩] ++ [endT c]), 0, 0, 0⟩).2) = ⟨5, [41], 0, (b : Int)⟩ := hq
      have hqc : (scrL 9 [] ⟨pre ++ ([⟨5, [41], 0, (b : Int)⟩] ++ [endT c]), 0, 0, 0⟩).2.c = 0 := hs.c2
      unfold endM
      rw [if_pos ⟨hqc, by rw [hq5]; show (5 : Int) ≠ 6; decide⟩]
      simp only [failM, hqc, if_true, hq5]
      exact ⟨trivial, trivial⟩
/-- Behind a ; a statement must stand. -/
theorem scr_semi {x E : Tok} (hx : x.kind = 5) (ht : x.text = [59]) (hE : E.kind = 6) : ∀ (n : Nat) (out : List Stm) (r q : R), Sim [x, E] 0 0 r q → n + out.length = 9 → out.length ≤ 8 → (endM (scrL n out r).2).c = 0 →
    (endM (scrL n out q).2).a = E.at_ ∧ ((endM (scrL n out q).2).c = 4 ∨ (endM (scrL n out q).2).c = 2 ∧ (scrL n out r).1.length = 8)
  | 0, out, r, q, _, _, _, _ => by omega
  | n + 1, out, r, q, hsim, hn, h8, hc => by
    have hz : Zt [x, E] := zt_two hx (.inr ht) hE
    by_cases h88 : out.length = 8
    · -- too many
      have hbad : (scrL (n + 1) out r).2.c ≠ 0 := by
        have hb : (stateM (failM 2 r)).2.c ≠ 0 := by
          have := failM_c 2 r (by decide)
          rw [stateM_bad this]
          exact this
        unfold scrL
        rw [if_pos h88, hasM_bad hb]
        exact hb
      exact absurd (endM_zero hc).1 hbad
    · unfold scrL at hc ⊢
      simp only [if_neg h88] at hc ⊢
      have hfault : (stateM r).2.c ≠ 0 → False := fun hb => by
        rw [hasM_bad hb] at hc
        exact hb (endM_zero hc).1
      rcases (Gd.state hz).sim r q hsim with h1 | h1 | ⟨h1, h2⟩
      · exact (hfault h1).elim
      · exact absurd rfl h1.1
      rw [h1]
      cases hy : (hasM [59] (stateM r).2).1 with
      | true =>
        obtain ⟨h3, h4⟩ := hasM_sim_yes hz.toZok h2 hy
        rw [hy] at hc
        simp only [if_true] at hc
        rw [h3]
        simp only [if_true]
        exact scr_semi hx ht hE n _ _ _ h4 (by simp; omega) (by simp; omega) hc
      | false =>
        rw [hy] at hc
        simp only [Bool.false_eq_true, if_false] at hc
        rw [hasM_no hy] at hc
        obtain ⟨h5, h6⟩ := endM_zero hc
        rcases h2.hd_cases hz.toZok with ⟨h7, _⟩ | ⟨_, h7, _, h9⟩
        · exact absurd h6 h7
        have hyes : hasM [59] (stateM q).2 = (true, (stateM q).2.tail) := by
          have hi : isM [[59]] (stateM q).2 = 0 := by
            unfold isM
            rw [h7]
            show (if (stateM q).2.c = 0 ∧ (x.kind = 2 ∨ x.kind = 5) then idxF [[59]] x.text else -1) = 0
            rw [if_pos ⟨h2.c2, .inr hx⟩, ht]
            rfl
          simp [hasM, passM, hi]
        rw [hyes]
        simp only [if_true, Bool.false_eq_true, if_false]
        have htail : (stateM q).2.tail.ts = [E] := by show (stateM q).2.ts.tail = [E]; rw [h9]; rfl
        have hhd : hd (stateM q).2.tail = E := by simp [hd, htail]
        have hc0 : (stateM q).2.tail.c = 0 := h2.c2
        generalize (stateM q).2.tail = p at htail hhd hc0 ⊢
        obtain ⟨m, rfl⟩ : ∃ m, n = m + 1 := ⟨n - 1, by omega⟩
        have hpass : passM stOps p = (-1, p) := by
          have : isM stOps p = -1 := by simp [isM, hhd, hE]
          simp [passM, this]
        have hstate : stateM p = (stm0 0, failM 4 p) := by simp [stateM, hpass]
        have hend : ∀ q' : R, q'.c ≠ 0 → endM q' = q' := fun q' h => by simp [endM, h]
        unfold scrL
        simp only [List.length_append, List.length_cons, List.length_nil]
        by_cases h7' : out.length + (0 + 1) = 8
        · simp only [if_pos h7']
          have hb := failM_c 2 p (by decide)
          rw [stateM_bad hb, hasM_bad hb]
          simp only [Bool.false_eq_true, if_false]
          rw [hend _ hb]
          refine ⟨by simp [failM, hc0, hhd], .inr ⟨by simp [failM, hc0], by simp; omega⟩⟩
        · simp only [if_neg h7']
          have hb := failM_c 4 p (by decide)
          rw [hstate, hasM_bad hb]
          simp only [Bool.false_eq_true, if_false]
          rw [hend _ hb]
          exact ⟨by simp [failM, hc0, hhd], .inl (by simp [failM, hc0])⟩
theorem scriptM_zero {l : List Tok} {f : Ft} (h : (scriptM l f).2.c = 0) : f.c = 0 ∧ (endM (scrL 9 [] ⟨l, 0, 0, 0⟩).2).c = 0 ∧ (scriptM l f).1 = (scrL 9 [] ⟨l, 0, 0, 0⟩).1 := by
  unfold scriptM at h ⊢
  split at h
  · rename_i h1; exact absurd h h1
  · rename_i h1
    split at h
    · rename_i h2; exact absurd h h2
    · rename_i h2
      rw [if_neg h1, if_neg h2]
      exact ⟨by simpa using h1, by simpa using h2, rfl⟩
theorem empty_law (s : Str) : EmptyLaw s := by
  refine ⟨fun h => ?_, fun h hl => ?_⟩
  · unfold scriptS scriptM at h ⊢
    split
    · rfl
    · rename_i h1
      rw [if_neg h1] at h
      split
      · rfl
      · rename_i h2
        rw [if_neg h2] at h
        exact absurd rfl h
  · obtain ⟨h1, h2, h3⟩ := scriptM_zero h
    obtain ⟨pre, e1, e2, e3⟩ := lexM_ext h1
    have hlen : (scrL 9 [] ⟨(lexM s).1, 0, 0, 0⟩).2.c = 0 := (endM_zero h2).1
    have hsl := scrL_len 9 [] ⟨(lexM s).1, 0, 0, 0⟩ (by omega) (by simp) (by simp) hlen
    have hS : (scriptS s).1 = (scrL 9 [] ⟨(lexM s).1, 0, 0, 0⟩).1 := h3
    rw [← hS] at hsl
    rw [e1] at h2
    have l2 := e3 [41, 32] (by simp; omega)
    have l3 := e3 [59] (by simp; omega)
    simp only [List.length_cons, List.length_nil] at l2 l3
    rw [lex_close] at l2
    rw [lex_semi] at l3
    have c2 := scr_close e2 s.length (s.length + 1) (s.length + 1 + 2) h2
    have c3 := scr_semi (x := ⟨5, [59], 0, ((s.length + 1 : Nat) : Int)⟩) (E := endT (s.length + 1 + 1)) rfl rfl rfl 9 [] _ _ (sim_start e2 (endT s.length) rfl) (by simp) (by simp) h2
    have hS2 : scriptS (s ++ [10, 41, 32]) = ([], ⟨4, ((s.length + 1 : Nat) : Int)⟩) := by
      show scriptM (lexM (s ++ [10, 41, 32])).1 (lexM (s ++ [10, 41, 32])).2 = _
      rw [l2]
      unfold scriptM
      rw [if_neg (by simp), c2.1, c2.2]
      rfl
    have hS3 : (scriptS (s ++ [10, 59])).1 = [] ∧ (scriptS (s ++ [10, 59])).2.a = ((s.length + 2 : Nat) : Int) ∧ ((scriptS (s ++ [10, 59])).2.c = 4 ∨ (scriptS (s ++ [10, 59])).2.c = 2 ∧ (scriptS s).1.length = 8) := by
      have : scriptS (s ++ [10, 59]) = scriptM (lexM (s ++ [10, 59])).1 (lexM (s ++ [10, 59])).2 := rfl
      rw [this, l3, hS, e1]
      rw [List.append_assoc]
      obtain ⟨c4, c5⟩ := c3
      have hne : (endM (scrL 9 [] ⟨pre ++ [⟨5, [59], 0, ((s.length + 1 : Nat) : Int)⟩, endT (s.length + 1 + 1)], 0, 0, 0⟩).2).c ≠ 0 := by
        rcases c5 with c5 | c5
        · rw [c5]; decide
        · rw [c5.1]; decide
      unfold scriptM
      simp only [List.cons_append, List.nil_append]
      rw [if_neg (by simp), if_pos hne]
      exact ⟨rfl, c4, c5⟩
    rw [hS2]
    exact ⟨hsl.1, hsl.2, rfl, rfl, rfl, hS3⟩
end Go.Proofs.Ytolhbjfaahcekaa
end
section
/- Plain: what ParseBrackets says of the readers. -/
set_option linter.unusedVariables false
set_option linter.unusedSimpArgs false
namespace Go.Proofs.Ytolhbjfaahcekaa

mutual
theorem sameM_refl : ∀ e : Ex, sameM e e = true
  | .mk k o t n v l => by simp [sameM, vlEq, samesM_refl l]
theorem samesM_refl : ∀ l : List Ex, samesM l l = true
  | [] => rfl
  | e :: es => by simp [samesM, sameM_refl e, samesM_refl es]
end
/-! ### Few arguments -/
def Fw (m : R → Ex × R) : Prop := ∀ r, Ex.few 1000000000000000 (m r).1 = true
theorem few0 : Ex.few 1000000000000000 ex0 = true := rfl
theorem few_of (k : Int) {e : Ex} (h : Ex.few 1000000000000000 e = true) : Ex.few 1000000000000000 (ofM k e) = true := by simp [ofM, Ex.few, Exs.few, h]
theorem few_op (k : Int) {e f : Ex} (h : Ex.few 1000000000000000 e = true) (h' : Ex.few 1000000000000000 f = true) : Ex.few 1000000000000000 (opM k e f) = true := by simp [opM, Ex.few, Exs.few, h, h']
theorem rowL_few {m : R → Ex × R} (h : Fw m) (first : Int) (ops : List Str) : ∀ (n : Nat) (e : Ex) (r : R), Ex.few 1000000000000000 e = true → Ex.few 1000000000000000 (rowL m first ops n e r).1 = true
  | 0, e, r, he => he
  | n + 1, e, r, he => by
    unfold rowL
    split
    · exact he
    · exact rowL_few h first ops n _ _ (few_op _ he (h _))
theorem rowM_few {m : R → Ex × R} (h : Fw m) (first : Int) (ops : List Str) : Fw (rowM m first ops) := fun r => rowL_few h first ops _ _ _ (h r)
theorem withM_few {m : R → Ex × R} (h : Fw m) : Fw (withM m) := fun r => by
  unfold withM
  split
  · exact h _
  · exact few0
theorem colM_few : Fw colM := fun r => by
  unfold colM
  simp only
  split <;> rfl
theorem facM_few {m t : R → Ex × R} (h : Fw m) (h' : Fw t) : Fw (facM m t) := fun r => by
  unfold facM
  (repeat' split)
  · rfl
  · exact few_of 5 (withM_few h _)
  · exact withM_few h' _
  · exact colM_few _
theorem testM_few {m : R → Ex × R} (h : Fw m) : Fw (testM m) := fun r => by
  unfold testM
  (repeat' split)
  · exact h _
  · exact few_op _ (h _) (h _)
  · exact few_of 4 (few_of 6 (h _))
  · exact few_of 6 (h _)
theorem notM_few {m t : R → Ex × R} (h : Fw m) (h' : Fw t) : Fw (notM m t) := fun r => by
  unfold notM
  split
  · exact few_of 4 (withM_few h _)
  · exact h' _
theorem mkLv_few {l : Lv} (h : Fw l.fac ∧ Fw l.nt ∧ Fw l.ex) : Fw (mkLv l).fac ∧ Fw (mkLv l).nt ∧ Fw (mkLv l).ex := by
  have hf := facM_few h.1 h.2.2
  have hn := notM_few h.2.1 (testM_few (rowM_few (rowM_few hf 11 termOps) 9 sumOps))
  exact ⟨hf, hn, rowM_few (rowM_few hn 2 andOps) 1 exprOps⟩
theorem lv_few : ∀ n, Fw (lv n).fac ∧ Fw (lv n).nt ∧ Fw (lv n).ex
  | 0 => mkLv_few ⟨fun _ => few0, fun _ => few0, fun _ => few0⟩
  | n + 1 => mkLv_few (lv_few n)
theorem exprM_few : Fw exprM := (lv_few 10).2.2
theorem oneM_few (l : List Tok) (f : Ft) : Ex.few 1000000000000000 (oneM l f).1 = true := by
  unfold oneM
  (repeat' split)
  · exact few0
  · exact few0
  · exact exprM_few _

/-! ### What stands in brackets -/
theorem prefB_ne {c x : UInt8} (r y : Str) (h : x ≠ c) : prefB (c :: r) (x :: y) = false := by
  rw [Bool.eq_false_iff]
  intro hp
  rw [prefB_iff, List.cons_prefix_cons] at hp
  exact h hp.1
theorem token_open (r : Str) : tokenM (40 :: r) = ⟨⟨5, [40], 0, 0⟩, 1, 0⟩ := by
  show signF signsL (40 :: r) = _
  have h1 : prefB (40 :: r) [40] = true := by rw [prefB_iff]; simp
  simp only [signsL, signF, prefB_ne r _ (show (60 : UInt8) ≠ 40 by decide), prefB_ne r _ (show (62 : UInt8) ≠ 40 by decide), h1, if_true, Bool.false_eq_true, if_false]
  rfl
theorem lex_open {s : Str} (h : (lexM s).2.c = 0) (hl : s.length ≤ 1996) : ∃ pre, lexM s = (pre ++ [endT s.length], ⟨0, 0⟩) ∧ (∀ x ∈ pre, x.kind ≠ 6) ∧
    lexM ([40] ++ s ++ [10, 41]) = (⟨5, [40], 0, 0⟩ :: (pre.map (shT 1) ++ [⟨5, [41], 0, ((s.length + 2 : Nat) : Int)⟩, endT (s.length + 3)]), ⟨0, 0⟩) := by
  obtain ⟨h1, h2⟩ := lexM_fine h
  obtain ⟨pre, e1, e2, _⟩ := lexM_ext h
  refine ⟨pre, e1, e2, ?_⟩
  rw [h2] at h e1
  have hs := lexF_shift 1 [⟨5, [40], 0, 0⟩] (s.length + 1) s 0 [] (by omega) h
  rw [e1] at hs
  simp only [List.map_append, List.map_cons, List.map_nil, List.append_nil, Nat.zero_add] at hs
  obtain ⟨pre', e3, e4, e5⟩ := lexF_ext [41] (s.length + 1) s 1 [⟨5, [40], 0, 0⟩] (by omega) (by rw [hs]) (by intro x hx; simp at hx; subst hx; decide) ((s ++ [10, 41]).length + 1) (by simp)
  have hp : pre' = ⟨5, [40], 0, 0⟩ :: pre.map (shT 1) := by
    rw [hs] at e3
    have h3 : (([⟨5, [40], 0, 0⟩] ++ pre.map (shT 1)) ++ [shT 1 (endT s.length)] : List Tok) = pre' ++ [endT (1 + s.length)] := by
      have := (Prod.mk.inj e3).1
      rw [← this]
      simp
    have h4 : shT 1 (endT s.length) = endT (1 + s.length) := by
      simp only [shT, endT]
      congr 1
      omega
    rw [h4] at h3
    exact (List.append_cancel_right h3).symm
  have hL : lexM ([40] ++ s ++ [10, 41]) = lexF ((40 :: (s ++ [10, 41])).length + 1) (40 :: (s ++ [10, 41])) 0 [] := by
    have : [40] ++ s ++ [10, 41] = 40 :: (s ++ [10, 41]) := by simp
    rw [this]
    unfold lexM
    rw [if_neg (by simp; omega)]
  have hb : blankN (40 :: (s ++ [10, 41])) = 0 := by
    rw [blankN_cons, if_neg (by decide), if_neg (by simp)]
  rw [hL]
  unfold lexF
  rw [hb, List.drop_zero, if_neg (by simp), token_open, if_neg (by simp)]
  simp only [List.drop_succ_cons, List.drop_zero, Nat.zero_add, Nat.add_zero, List.nil_append, List.length_cons]
  have hfu := lexF_fuel ((s ++ [10, 41]).length + 1) ((s ++ [10, 41]).length + 1) (s ++ [10, 41]) 1 [⟨5, [40], 0, 0⟩] (by omega) (by omega)
  have e5' : lexF ((s ++ [10, 41]).length + 1) (s ++ [10, 41]) 1 [⟨5, [40], 0, 0⟩] = lexF 2 [41] (1 + s.length + 1) pre' := e5
  show lexF ((s ++ [10, 41]).length + 1) (s ++ [10, 41]) 1 [⟨5, [40], 0, 0⟩] = _
  rw [e5', lex_close1, hp]
  have a1 : 1 + s.length + 1 = s.length + 2 := by omega
  have a2 : s.length + 2 + 1 = s.length + 3 := rfl
  rw [a1, a2]
  simp
theorem passM_end {ls : List Str} {p : R} (h6 : (hd p).kind = 6) : passM ls p = (-1, p) := by
  have : isM ls p = -1 := by simp [isM, h6]
  simp [passM, this]
theorem rowM_end {m : R → Ex × R} (first : Int) (ops : List Str) {q p : R} {e : Ex} (h : m q = (e, p)) (h6 : (hd p).kind = 6) (hl : p.ts.length = 1) : rowM m first ops q = (e, p) := by
  unfold rowM
  rw [h]
  simp only [hl, rowL, passM_end h6]
  rfl
theorem rowM_bad {m : R → Ex × R} (first : Int) (ops : List Str) {q p : R} {e : Ex} (h : m q = (e, p)) (hc : p.c ≠ 0) : rowM m first ops q = (e, p) := by
  unfold rowM
  rw [h]
  cases p.ts.length with
  | zero => rfl
  | succ n =>
    simp only [rowL, passM_bad hc]
    rfl
/-- A factor that is followed by the end, or at fault. -/
theorem ex_of_fac {lo : Lv} {q p : R} {e : Ex} (hf : facM lo.fac lo.ex q = (e, p)) (hn : (hasM sNOT q).1 = false) (h : p.c ≠ 0 ∨ (hd p).kind = 6 ∧ p.ts.length = 1) : (mkLv lo).ex q = (e, p) := by
  have hrow : ∀ {m : R → Ex × R} (first : Int) (ops : List Str), m q = (e, p) → rowM m first ops q = (e, p) := fun {m} first ops hm => by
    rcases h with h | h
    · exact rowM_bad first ops hm h
    · exact rowM_end first ops hm h.1 h.2
  have h1 := hrow 9 sumOps (hrow 11 termOps hf)
  have h2 : testM (rowM (rowM (facM lo.fac lo.ex) 11 termOps) 9 sumOps) q = (e, p) := by
    have hp : passM testOps p = (-1, p) := by
      rcases h with h | h
      · exact passM_bad h
      · exact passM_end h.1
    unfold testM
    rw [h1]
    simp only [hp]
    rfl
  have h3 : notM lo.nt (testM (rowM (rowM (facM lo.fac lo.ex) 11 termOps) 9 sumOps)) q = (e, p) := by
    unfold notM
    rw [if_neg (by simp [hn]), hasM_no hn]
    exact h2
  exact hrow 1 exprOps (hrow 2 andOps h3)
theorem brackets_law (s : Str) : BracketsLaw s := by
  intro h hl
  have hzero : (lexM s).2.c = 0 ∧ (endM (exprM ⟨(lexM s).1, 0, 0, 0⟩).2).c = 0 ∧ (oneS s).1 = (exprM ⟨(lexM s).1, 0, 0, 0⟩).1 := by
    unfold oneS oneM at h ⊢
    split at h
    · rename_i h1; exact absurd h h1
    · rename_i h1
      split at h
      · rename_i h2; exact absurd h h2
      · rename_i h2
        rw [if_neg h1, if_neg h2]
        exact ⟨by simpa using h1, by simpa using h2, rfl⟩
  obtain ⟨h1, h2, h3⟩ := hzero
  obtain ⟨pre, e1, e2, e3⟩ := lex_open h1 hl
  rw [e1] at h2 h3
  rw [h3]
  obtain ⟨h4, h5⟩ := endM_zero h2
  have hz : Zt [⟨5, [41], 0, ((s.length + 2 : Nat) : Int)⟩, endT (s.length + 3)] := zt_two rfl (.inl rfl) rfl
  have hsim : Sim [⟨5, [41], 0, ((s.length + 2 : Nat) : Int)⟩, endT (s.length + 3)] 1 0 ⟨pre ++ [endT s.length], 0, 0, 0⟩ ⟨pre.map (shT 1) ++ [⟨5, [41], 0, ((s.length + 2 : Nat) : Int)⟩, endT (s.length + 3)], 1, 0, 0⟩ :=
    ⟨ext_shift _ _ rfl 1 pre e2, rfl, rfl, rfl, rfl⟩
  have hg := (Gd.expr1 hz).sim _ _ hsim
  -- the factor
  let q0 : R := ⟨⟨5, [40], 0, 0⟩ :: (pre.map (shT 1) ++ [⟨5, [41], 0, ((s.length + 2 : Nat) : Int)⟩, endT (s.length + 3)]), 0, 0, 0⟩
  let q1 : R := ⟨pre.map (shT 1) ++ [⟨5, [41], 0, ((s.length + 2 : Nat) : Int)⟩, endT (s.length + 3)], 1, 0, 0⟩
  have hlit : litM q0 = ((v0, false), q0) := rfl
  have hpass : passM facOps q0 = (1, ⟨pre.map (shT 1) ++ [⟨5, [41], 0, ((s.length + 2 : Nat) : Int)⟩, endT (s.length + 3)], 0, 0, 0⟩) := rfl
  have hnot : (hasM sNOT q0).1 = false := rfl
  have hwith : withM (lv 9).ex ⟨pre.map (shT 1) ++ [⟨5, [41], 0, ((s.length + 2 : Nat) : Int)⟩, endT (s.length + 3)], 0, 0, 0⟩ = (((lv 9).ex q1).1, ((lv 9).ex q1).2.deep (-1)) := rfl
  have hfac : facM (lv 9).fac (lv 9).ex q0 = (((lv 9).ex q1).1, mustM [[41]] (((lv 9).ex q1).2.deep (-1))) := by
    unfold facM
    rw [hlit, hpass]
    simp only [Bool.false_eq_true, if_false]
    rw [if_neg (by decide), if_pos trivial, hwith]
  have hone : oneS ([40] ++ s ++ [10, 41]) = oneM q0.ts ⟨0, 0⟩ := by
    unfold oneS
    rw [e3]
  have hex : ∀ {e : Ex} {p : R}, facM (lv 9).fac (lv 9).ex q0 = (e, p) → (p.c ≠ 0 ∨ (hd p).kind = 6 ∧ p.ts.length = 1) → exprM ⟨q0.ts, 0, 0, 0⟩ = (e, p) := fun hf hp => ex_of_fac (lo := lv 9) hf hnot hp
  rw [hone]
  rcases hg with hg | hg | ⟨hg1, hg2⟩
  · exact absurd h4 hg
  · left
    have hb : (((lv 9).ex q1).2.deep (-1)).c = 10 := hg.2
    have hm : mustM [[41]] (((lv 9).ex q1).2.deep (-1)) = ((lv 9).ex q1).2.deep (-1) := mustM_bad (by rw [hb]; decide)
    rw [hm] at hfac
    have hE := hex hfac (.inl (by rw [hb]; decide))
    have hend : endM (((lv 9).ex q1).2.deep (-1)) = ((lv 9).ex q1).2.deep (-1) := by
      unfold endM
      rw [if_neg (by rw [hb]; intro h; exact absurd h.1 (by decide))]
    unfold oneM
    rw [if_neg (by simp), hE]
    simp only [hend, hb]
    rfl
  · right
    rcases hg2.hd_cases hz.toZok with ⟨h6, _⟩ | ⟨_, h7, _, h9⟩
    · exact absurd h5 h6
    have hm : mustM [[41]] (((lv 9).ex q1).2.deep (-1)) = (((lv 9).ex q1).2.deep (-1)).tail := by
      have hi : isM [[41]] (((lv 9).ex q1).2.deep (-1)) = 0 := by
        unfold isM
        have e1 : hd (((lv 9).ex q1).2.deep (-1)) = ⟨5, [41], 0, ((s.length + 2 : Nat) : Int)⟩ := h7
        have e2 : (((lv 9).ex q1).2.deep (-1)).c = 0 := hg2.c2
        rw [e1, e2]
        rfl
      simp [mustM, hasM, passM, hi]
    have htail : (((lv 9).ex q1).2.deep (-1)).tail.ts = [endT (s.length + 3)] := by
      show ((lv 9).ex q1).2.ts.tail = _
      have : ((lv 9).ex q1).2.ts = [⟨5, [41], 0, ((s.length + 2 : Nat) : Int)⟩, endT (s.length + 3)] := h9
      rw [this]
      rfl
    have hc0 : (((lv 9).ex q1).2.deep (-1)).tail.c = 0 := hg2.c2
    rw [hm] at hfac
    generalize (((lv 9).ex q1).2.deep (-1)).tail = p at hfac htail hc0
    have h6 : (hd p).kind = 6 := by simp [hd, htail, endT]
    have hE := hex hfac (.inr ⟨h6, by rw [htail]; rfl⟩)
    have hend : endM p = p := by
      unfold endM
      rw [if_neg (by rw [h6]; intro h; exact absurd rfl h.2)]
    have hres : oneM q0.ts ⟨0, 0⟩ = (((lv 9).ex q1).1, ⟨0, 0⟩) := by
      unfold oneM
      rw [if_neg (by simp), hE]
      simp only [hend, hc0]
      rfl
    rw [hres]
    refine ⟨rfl, ?_⟩
    have hg1' : ((lv 9).ex q1).1 = (exprM ⟨pre ++ [endT s.length], 0, 0, 0⟩).1 := hg1
    show sameM (exprM ⟨pre ++ [endT s.length], 0, 0, 0⟩).1 ((lv 9).ex q1).1 = true
    rw [hg1']
    exact sameM_refl _
end Go.Proofs.Ytolhbjfaahcekaa
end
