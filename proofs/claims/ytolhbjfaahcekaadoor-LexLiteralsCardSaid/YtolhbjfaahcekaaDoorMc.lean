/- Texts of this claim's author, joined: Qh, Sb, Sc, Za, Zd, Ld, P1, Ua, Ka, Kf, Tf. -/
import Derived.Test.YtolhbjfaahcekaaDoorMb
import Derived.Test.YtolhbjfaahcekaaDoorMa
import Derived.Lib.IndexBytes
import Derived.Test.YtolhbjfaahcekaaDoorRows
import Derived.ProofKit
import Derived.Below
import Derived.ChangeSame
import Derived.ChangeMaps5
import Derived.HandedShaped
import Derived.Shelf.Vars
import Derived.Lay
import Derived.MakeChecks
import Derived.Stop.LaidErr
import Derived.Carry
import Derived.LaidLaws
import Derived.Lib.AppendIntMem
import Derived.Lib.Replace
import Derived.Lib.Join
import Derived.Lib.JoinLaws
import Derived.Lib.ItoaLen
section
/- The lexer: all tokens. -/
set_option linter.unusedVariables false
set_option linter.unusedSimpArgs false
namespace Go.Proofs.YtolhbjfaahcekaaDoor
open Go

theorem indexByte_lt : ∀ (l : Str) (c : UInt8), -1 ≤ Lib.indexByte l c ∧ Lib.indexByte l c < l.length
  | [], c => by simp [Lib.indexByte]
  | b :: l, c => by
    have := indexByte_lt l c
    simp only [Lib.indexByte, List.length_cons]
    split
    · omega
    · split
      · omega
      · omega
theorem quoteF_le : ∀ (m : Nat) (rest out : Str) (a : Nat), (quoteF m rest out a).e = 0 → a < (quoteF m rest out a).n ∧ (quoteF m rest out a).n ≤ a + rest.length
  | 0, rest, out, a, h => by simp [quoteF] at h
  | m + 1, rest, out, a, h => by
    have hi := indexByte_lt rest 39
    unfold quoteF at h ⊢
    split at h
    · simp at h
    · rename_i h1
      rw [if_neg h1]
      simp only at h ⊢
      split at h
      · rename_i h2
        rw [if_pos h2]
        have := quoteF_le m _ _ _ h
        simp only [List.length_drop] at this
        have h3 : 1 ≤ (rest.drop ((Lib.indexByte rest 39).toNat + 1)).length := by
          simp only [prefB, Bool.and_eq_true, decide_eq_true_eq] at h2
          have := h2.1
          simp at this
          simp
          omega
        simp only [List.length_drop] at h3
        omega
      · rename_i h2
        rw [if_neg h2]
        split at h
        · simp at h
        · rename_i h4
          rw [if_neg h4]
          simp only
          omega
theorem signF_le : ∀ (l : List Str) (s : Str), (∀ x ∈ l, x ≠ []) → (signF l s).e = 0 → 1 ≤ (signF l s).n ∧ (signF l s).n ≤ s.length
  | [], s, _, h => by simp [signF] at h
  | x :: l, s, hl, h => by
    unfold signF at h ⊢
    split
    · rename_i hp
      have hx := hl x (by simp)
      simp only [prefB, Bool.and_eq_true, decide_eq_true_eq] at hp
      have h1 := hp.1
      have : x.length ≠ 0 := by simpa using hx
      simp only
      omega
    · rename_i hp
      rw [if_neg hp] at h
      exact signF_le l s (fun y hy => hl y (by simp [hy])) h
theorem rowN_pos {p : UInt8 → Bool} {c : UInt8} {r : Str} (h : p c = true) : 1 ≤ rowN p (c :: r) := by
  simp [rowN, h]
theorem tokenM_le {s : Str} (hs : s ≠ []) (h : (tokenM s).e = 0) : 1 ≤ (tokenM s).n ∧ (tokenM s).n ≤ s.length := by
  cases s with
  | nil => exact absurd rfl hs
  | cons c r =>
    unfold tokenM at h ⊢
    simp only at h ⊢
    split
    · rename_i h1
      rw [if_pos h1] at h
      have := quoteF_le _ _ _ _ h
      simp only [quotedM, List.length_drop, List.length_cons] at this ⊢
      omega
    · rename_i h1
      rw [if_neg h1] at h
      split
      · rename_i h2
        exact ⟨rowN_pos (by simp [smallB, h2]), rowN_le _ _⟩
      · rename_i h2
        rw [if_neg h2] at h
        split
        · rename_i h3
          exact ⟨rowN_pos h3, rowN_le _ _⟩
        · rename_i h3
          rw [if_neg h3] at h
          split
          · rename_i h4
            exact ⟨rowN_pos h4, rowN_le _ _⟩
          · rename_i h4
            rw [if_neg h4] at h
            exact signF_le signsL _ (by decide) h
def lexF : Nat → Str → Nat → List Tok → List Tok × Ft
  | 0, _, _, _ => ([], ⟨0, 0⟩)
  | n + 1, rest, a, acc =>
    if rest.drop (blankN rest) = [] then (acc ++ [⟨6, [], 0, ((a + blankN rest : Nat) : Int)⟩], ⟨0, 0⟩)
    else if (tokenM (rest.drop (blankN rest))).e ≠ 0 then ([], ⟨(tokenM (rest.drop (blankN rest))).e, ((a + blankN rest : Nat) : Int)⟩)
    else lexF n (rest.drop (blankN rest + (tokenM (rest.drop (blankN rest))).n)) (a + blankN rest + (tokenM (rest.drop (blankN rest))).n)
      (acc ++ [{ (tokenM (rest.drop (blankN rest))).t with at_ := ((a + blankN rest : Nat) : Int) }])
def lexM (s : Str) : List Tok × Ft := if (s.length : Int) > 2000 then ([], ⟨2, -1⟩) else lexF (s.length + 1) s 0 []
theorem tokens_pc {s : Str} (hq : ∀ r : Str, r ≠ [] → r.length ≤ 2000 → Pure Tryd.prog 16 [.str r] (tk3PV (quotedM r))) :
    Pure Tryd.prog 6 [.str s] (.tup [toksPV (lexM s).1, ftPV (lexM s).2]) := by
  have hcl : PV.clean 0 0 (.tup [toksPV (lexM s).1, ftPV (lexM s).2]) = true := by simp [PV.clean, PVs.clean, toks_clean]; rfl
  refine PC.intro tab_ok Tryd.func6 rfl (by kernel_rfl) Tryd.ntmps6 (Nat.le_of_ble_eq_true rfl) (rs := _) (congrArg Array.toList Tryd.results6) ?_
  refine PW.go tab_ok [] fun K hK => ?_
  simp only [go_sem, ↓reduceIte, reduceCtorEq, Nat.reduceBEq, Nat.reduceAdd, Nat.reduceMul, Nat.reduceSub, Nat.reduceLT, Nat.reduceLeDiff, Nat.reduceEqDiff]
  (refine hK _ _ ?_; (try clear hK); (try clear K))
  refine PW.seq_k fun K0 hK0 => ?_
  refine PW.go tab_ok [] fun K hK => ?_
  simp only [go_sem, ↓reduceIte, reduceCtorEq, Nat.reduceBEq, Nat.reduceAdd, Nat.reduceMul, Nat.reduceSub, Nat.reduceLT, Nat.reduceLeDiff, Nat.reduceEqDiff]
  (refine hK _ _ ?_; (try clear hK); (try clear K))
  refine PW.cond_split (b := decide ((s.length : Int) > 2000)) rfl ?_ ?_ <;> intro hb
  · have h2 : (s.length : Int) > 2000 := by simpa using hb
    refine PW.go tab_ok [] fun K hK => ?_
    simp only [go_sem, ↓reduceIte, reduceCtorEq, Nat.reduceBEq, Nat.reduceAdd, Nat.reduceMul, Nat.reduceSub, Nat.reduceLT, Nat.reduceLeDiff, Nat.reduceEqDiff]
    (refine hK _ _ ?_; (try clear hK); (try clear K))
    refine PW.ret (Pure.finw (.inl rfl) rfl ?_ hcl)
    simp only [lexM, if_pos h2, resPV]
    exact Weak.tup (.cons (Weak.nil _ _ _) (.cons (.refl _) .nil))
  have h2 : ¬ (s.length : Int) > 2000 := by simpa using hb
  have hlex : lexM s = lexF (s.length + 1) s 0 [] := by simp only [lexM, if_neg h2]
  refine PW.skip (hK0 _ _ ?_)
  clear hK0 K0
  refine PW.go tab_ok [] fun K hK => ?_
  simp only [go_sem, ↓reduceIte, reduceCtorEq, Nat.reduceBEq, Nat.reduceAdd, Nat.reduceMul, Nat.reduceSub, Nat.reduceLT, Nat.reduceLeDiff, Nat.reduceEqDiff]
  (refine hK _ _ ?_; (try clear hK); (try clear K))
  refine PW.go tab_ok [] fun K hK => ?_
  simp only [go_sem, ↓reduceIte, reduceCtorEq, Nat.reduceBEq, Nat.reduceAdd, Nat.reduceMul, Nat.reduceSub, Nat.reduceLT, Nat.reduceLeDiff, Nat.reduceEqDiff]
  (refine hK _ _ ?_; (try clear hK); (try clear K))
  refine PW.adopt ?_
  refine PW.less [(5, .int .i64 0), (4, .list 4 [] (.own 0)), (3, .ref 0 0), (0, .str s)] (by simp [Sub, eget, Weak.nil]) ?_
  refine PW.block (PW.loop (α := Nat × Nat × List Tok) (fun x => [(5, .int .i64 (x.2.1 : Int)), (4, .list 4 (x.2.2.map tokPV) (.own 0)), (3, .ref 0 0), (0, .str s)]) (fun x => ⟨[[.int .i64 0, .int .i64 0]], [x.2.2.length]⟩)
    (fun x => x.2.1 ≤ s.length ∧ s.length - x.2.1 < x.1 ∧ x.2.2.length ≤ x.2.1 ∧ lexF x.1 (s.drop x.2.1) x.2.1 x.2.2 = lexM s) (fun x => x.1) (s.length + 1, 0, []) ⟨Nat.zero_le _, by simp, Nat.zero_le _, by rw [hlex]; rfl⟩ ?_ rfl (fun _ _ => ⟨rfl, rfl⟩) ?_)
  · simp [Sub, eget]
  rintro ⟨n, a, acc⟩ ⟨ha, hn, hacc, he⟩
  simp only at ha hn hacc he
  obtain ⟨m, rfl⟩ : ∃ m, n = m + 1 := ⟨n - 1, by omega⟩
  have h0 : (0 : Int) ≤ (a : Int) := by omega
  have h0' : (a : Int) ≤ (s.length : Int) := by omega
  have hs2 : s.length ≤ 2000 := by omega
  have hbl : blankN (s.drop a) ≤ s.length - a := by have := blankN_le (s.drop a); simpa using this
  have hw : IntKind.i64.wrap ((a : Int) + (blankN (s.drop a) : Int)) = ((a + blankN (s.drop a) : Nat) : Int) := by
    rw [show (a : Int) + (blankN (s.drop a) : Int) = ((a + blankN (s.drop a) : Nat) : Int) from by omega]
    exact wrap_nat (by omega)
  have hfit : (acc.length + 1) * 40 ≤ 140737488355328 := by omega
  have hmax : acc.length + 1 ≤ maxLen := by unfold maxLen; omega
  refine PW.block ?_
  refine PW.go tab_ok [] fun K hK => ?_
  simp only [h0, h0', Int.toNat_natCast, go_sem, ↓reduceIte, reduceCtorEq, Nat.reduceBEq, Nat.reduceAdd, Nat.reduceMul, Nat.reduceSub, Nat.reduceLT, Nat.reduceLeDiff, Nat.reduceEqDiff]
  refine (blanks_pc (s := s.drop a) (by simp; omega)).use (Weaks.refl _) rfl rfl ?_
  refine PO.go tab_ok [] ?_
  simp only [hw, go_sem, ↓reduceIte, reduceCtorEq, Nat.reduceBEq, Nat.reduceAdd, Nat.reduceMul, Nat.reduceSub, Nat.reduceLT, Nat.reduceLeDiff, Nat.reduceEqDiff]
  (refine hK _ _ ?_; (try clear hK); (try clear K))
  have hdd : (s.drop a).drop (blankN (s.drop a)) = s.drop (a + blankN (s.drop a)) := by rw [List.drop_drop]
  simp only [lexF] at he
  rw [hdd] at he
  generalize blankN (s.drop a) = k at hbl hw hdd he ⊢
  refine PW.seq_k fun K0 hK0 => ?_
  refine PW.go tab_ok [] fun K hK => ?_
  simp only [go_sem, ↓reduceIte, reduceCtorEq, Nat.reduceBEq, Nat.reduceAdd, Nat.reduceMul, Nat.reduceSub, Nat.reduceLT, Nat.reduceLeDiff, Nat.reduceEqDiff]
  (refine hK _ _ ?_; (try clear hK); (try clear K))
  refine PW.cond_split (b := (((a + k : Nat) : Int) == (s.length : Int))) rfl ?_ ?_ <;> intro hb1
  · have h1 : a + k = s.length := by have : ((a + k : Nat) : Int) = (s.length : Int) := by simpa using hb1
                                     omega
    have hnil : s.drop (a + k) = [] := List.drop_eq_nil_of_le (by omega)
    rw [if_pos hnil] at he
    refine PW.go tab_ok [] fun K hK => ?_
    simp only [hfit, hmax, tokPV, go_sem, ↓reduceIte, reduceCtorEq, Nat.reduceBEq, Nat.reduceAdd, Nat.reduceMul, Nat.reduceSub, Nat.reduceLT, Nat.reduceLeDiff, Nat.reduceEqDiff]
    (refine hK _ _ ?_; (try clear hK); (try clear K))
    refine PW.ret (Pure.finw (.inl rfl) rfl ?_ hcl)
    rw [← he]
    simp only [resPV]
    refine Weak.tup (.cons ?_ (.cons (.refl _) .nil))
    have : toksPV (acc ++ [⟨6, [], 0, ((a + k : Nat) : Int)⟩]) = .list 4 (acc.map tokPV ++ [tokPV ⟨6, [], 0, ((a + k : Nat) : Int)⟩]) .no := by simp [toksPV]
    rw [this]
    exact Weak.no _ _ _
  have h1 : a + k < s.length := by
    have : ¬ ((a + k : Nat) : Int) = (s.length : Int) := by simpa using hb1
    omega
  have hne : s.drop (a + k) ≠ [] := by simp; omega
  rw [if_neg hne] at he
  have h3 : (0 : Int) ≤ ((a + k : Nat) : Int) := by omega
  have h3' : ((a + k : Nat) : Int) ≤ (s.length : Int) := by omega
  have htk : Pure Tryd.prog 10 [.str (s.drop (a + k))] (tk3PV (tokenM (s.drop (a + k)))) := by
    have hqq := hq (s.drop (a + k)) hne (by simp; omega)
    cases hc : s.drop (a + k) with
    | nil => exact absurd hc hne
    | cons c r =>
      rw [hc] at hqq
      exact token_pc (by rw [← hc]; simp; omega) hqq
  have htl := tokenM_le hne
  generalize tokenM (s.drop (a + k)) = x at he htk htl
  refine PW.skip (hK0 _ _ ?_)
  clear hK0 K0
  refine PW.go tab_ok [] fun K hK => ?_
  simp only [h3, h3', Int.toNat_natCast, go_sem, ↓reduceIte, reduceCtorEq, Nat.reduceBEq, Nat.reduceAdd, Nat.reduceMul, Nat.reduceSub, Nat.reduceLT, Nat.reduceLeDiff, Nat.reduceEqDiff]
  refine htk.use (Weaks.refl _) rfl rfl ?_
  refine PO.go tab_ok [] ?_
  simp only [tk3PV, tokPV, go_sem, ↓reduceIte, reduceCtorEq, Nat.reduceBEq, Nat.reduceAdd, Nat.reduceMul, Nat.reduceSub, Nat.reduceLT, Nat.reduceLeDiff, Nat.reduceEqDiff]
  (refine hK _ _ ?_; (try clear hK); (try clear K))
  refine PW.seq_k fun K0 hK0 => ?_
  refine PW.go tab_ok [] fun K hK => ?_
  simp only [go_sem, ↓reduceIte, reduceCtorEq, Nat.reduceBEq, Nat.reduceAdd, Nat.reduceMul, Nat.reduceSub, Nat.reduceLT, Nat.reduceLeDiff, Nat.reduceEqDiff]
  (refine hK _ _ ?_; (try clear hK); (try clear K))
  refine PW.cond_split (b := x.e != 0) rfl ?_ ?_ <;> intro hb2
  · have h4 : x.e ≠ 0 := by simpa using hb2
    rw [if_pos h4] at he
    refine PW.go tab_ok [] fun K hK => ?_
    simp only [go_sem, ↓reduceIte, reduceCtorEq, Nat.reduceBEq, Nat.reduceAdd, Nat.reduceMul, Nat.reduceSub, Nat.reduceLT, Nat.reduceLeDiff, Nat.reduceEqDiff]
    (refine hK _ _ ?_; (try clear hK); (try clear K))
    refine PW.ret (Pure.finw (.inl rfl) rfl ?_ hcl)
    rw [← he]
    simp only [resPV]
    exact Weak.tup (.cons (Weak.nil _ _ _) (.cons (.refl _) .nil))
  have h4 : x.e = 0 := by simpa using hb2
  have h4' : ¬ x.e ≠ 0 := by simp [h4]
  rw [if_neg h4'] at he
  obtain ⟨h5, h6⟩ := htl h4
  simp only [List.length_drop] at h6
  have hw2 : IntKind.i64.wrap (((a + k : Nat) : Int) + (x.n : Int)) = ((a + k + x.n : Nat) : Int) := by
    rw [show ((a + k : Nat) : Int) + (x.n : Int) = ((a + k + x.n : Nat) : Int) from by omega]
    exact wrap_nat (by omega)
  refine PW.skip (hK0 _ _ ?_)
  clear hK0 K0
  refine PW.go tab_ok [] fun K hK => ?_
  simp only [go_sem, ↓reduceIte, reduceCtorEq, Nat.reduceBEq, Nat.reduceAdd, Nat.reduceMul, Nat.reduceSub, Nat.reduceLT, Nat.reduceLeDiff, Nat.reduceEqDiff]
  (refine hK _ _ ?_; (try clear hK); (try clear K))
  refine PW.goL tab_ok [] fun K hK => ?_
  simp only [hfit, hmax, hw2, go_sem, ↓reduceIte, reduceCtorEq, Nat.reduceBEq, Nat.reduceAdd, Nat.reduceMul, Nat.reduceSub, Nat.reduceLT, Nat.reduceLeDiff, Nat.reduceEqDiff]
  (refine hK _ _ ?_; (try clear hK); (try clear K))
  refine ⟨(m, a + k + x.n, acc ++ [{ x.t with at_ := ((a + k : Nat) : Int) }]), ⟨?_, ?_, ?_, ?_⟩, by simp, ?_, ?_, ?_⟩
  · simp only; omega
  · simp only; omega
  · simp; omega
  · simp only
    rw [← he, List.drop_drop, Nat.add_assoc]
  · simp [Sub, eget, tokPV]
  · exact ⟨by simp [PV.isCell], by simp, by simp [PVs.clean, PV.clean]⟩
  · have hcm : ∀ l : List Tok, PVs.clean 1 1 (l.map tokPV) = true := fun l => clean_map (tok_clean 1 1) l
    simp only [Env.clean, PV.clean, List.length_cons, List.length_nil, List.nil_append, Nat.zero_add, hcm]
    rfl
end Go.Proofs.YtolhbjfaahcekaaDoor
end
section
/- The lexer at the machine: a quoted text. -/
set_option linter.unusedVariables false
set_option linter.unusedSimpArgs false
namespace Go.Proofs.YtolhbjfaahcekaaDoor
open Go Go.Proofs Go.RowKit

def tokV (t : Tok) : Value := .agg #[.int .i64 t.kind, .string ⟨t.text.toArray⟩, .int .i64 t.num, .int .i64 t.at_]
def tk3V (x : Tk3) : Value := .tuple #[tokV x.t, .int .i64 (x.n : Int), .int .i64 x.e]
theorem ext_drop (l : Str) (k : Nat) : ((⟨l.toArray⟩ : ByteArray).extract k l.length).data.toList = l.drop k := Lib.extract_to_end ⟨l.toArray⟩ k
theorem ext_take (l : Str) (k i : Nat) : ((⟨l.toArray⟩ : ByteArray).extract k (k + i)).data.toList = (l.drop k).take i := by
  rw [Lib.extract_data]
  congr 1
  omega
theorem index_w (l : Str) (k : Nat) (j : Int) (w : World) (hj : Lib.indexByte (l.drop k) 39 = j) :
    Calls Tryd.prog 26 #[.string ((⟨l.toArray⟩ : ByteArray).extract k l.length), .int .u8 39] w fun e w' => e = .returned (.int .i64 j) ∧ w' = w := by
  refine (Tryd.strings_IndexByte _ _ _).mono ?_
  rintro e w' ⟨rfl, rfl⟩
  rw [ext_drop, show (39 : Int).toNat.toUInt8 = 39 from rfl, hj]
  exact ⟨rfl, rfl⟩
theorem prefix_w (l : Str) (k : Nat) (b : Bool) (w : World) (hb : prefB (l.drop k) [39] = b) :
    Calls Tryd.prog 13 #[.string ((⟨l.toArray⟩ : ByteArray).extract k l.length), .string ⟨#[39]⟩] w fun e w' => e = .returned (.bool b) ∧ w' = w := by
  refine (Tryd.strings_HasPrefix _ _ _).mono ?_
  rintro e w' ⟨rfl, rfl⟩
  refine ⟨?_, rfl⟩
  congr 2
  rw [ext_drop, ← hb]
  generalize l.drop k = s
  cases s with
  | nil => rfl
  | cons x s =>
    simp only [prefB, Lib.hasPrefix, List.isPrefixOf, List.isPrefixOf_nil_left, List.length_cons, List.length_nil, List.take_succ_cons, List.take_zero, Bool.and_true]
    rw [decide_eq_true (by omega), Bool.true_and]
    by_cases h : x = 39
    · subst h; rfl
    · have h' : ¬ 39 = x := fun e => h e.symm
      have h2 : ([x] == [39]) = false := beq_eq_false_iff_ne.2 fun e => h (List.cons.inj e).1
      rw [h2, beq_eq_false_iff_ne.2 h']
theorem string_w (l : Str) (k i : Nat) (B b : Nat) (out : Str) (w : World) (h : Lib.IsBuilderF 53 5 B b (Lib.byteCells out) w) (hl : out.length ≤ 100000) (hk : l.length ≤ 100000) (hBw : B ≤ w.heap.size) :
    Calls Tryd.prog 27 #[.pointer (some ⟨b, 0, none⟩), .string ((⟨l.toArray⟩ : ByteArray).extract k (k + i))] w fun e w' => (∃ n : Int, e = .returned (.tuple #[.int .i64 n, .nilIface])) ∧ Lib.IsBuilderF 53 5 B b (Lib.byteCells (out ++ (l.drop k).take i)) w' ∧ Below B w w' := by
  have hsz : ((⟨l.toArray⟩ : ByteArray).extract k (k + i)).size ≤ l.length := by
    have := congrArg List.length (ext_take l k i)
    simp only [List.length_take, List.length_drop, Array.length_toList] at this
    show ((⟨l.toArray⟩ : ByteArray).extract k (k + i)).data.size ≤ _
    omega
  refine (sb_string B b _ _ w h (by rw [Lib.byteCells_length]; omega) hBw).mono ?_
  rintro e w' ⟨rfl, h1, h2⟩
  refine ⟨⟨_, rfl⟩, .inr ?_, h2⟩
  rw [Lib.byteCells_append]
  have : Lib.strCells ((⟨l.toArray⟩ : ByteArray).extract k (k + i)) = Lib.byteCells ((l.drop k).take i) := by
    rw [← ext_take]
    rfl
  rw [← this]
  exact h1

theorem bcell {W w1 : World} {n : Nat} (hb : Below n W w1) : (∀ b o, b < n → w1.cell? ⟨b, o, none⟩ = W.cell? ⟨b, o, none⟩) ∧ (∀ b o, b < n → w1.frozen? ⟨b, o, none⟩ = W.frozen? ⟨b, o, none⟩) :=
  ⟨fun b o h => hb.cell (p := ⟨b, o, none⟩) h, fun b o h => hb.frozen (p := ⟨b, o, none⟩) h⟩
set_option maxHeartbeats 4000000 in
set_option maxRecDepth 1000000 in
theorem quoted_walk (l : Str) (w : World) (h0 : 1 ≤ l.length) (hn : l.length ≤ 2000) :
    Calls Tryd.prog 16 #[.string ⟨l.toArray⟩] w fun e w' => e = .returned (tk3V (quotedM l)) ∧ Below w.heap.size w w' := by
  have hsz : (⟨l.toArray⟩ : ByteArray).size = l.length := rfl
  go_enter Tryd.func16, Tryd.ntmps16
  go_wp2
  go_loopw [6] (fun a wr => ∃ (k m : Nat) (out : Str), a = .int .i64 (k : Int) ∧ k ≤ l.length ∧ l.length - k < m ∧ quoteF m (l.drop k) out k = quotedM l ∧ out.length ≤ k ∧ Lib.IsBuilderF 53 5 (w.heap.size + 1) (w.heap.size + 1) (Lib.byteCells out) wr ∧ Below (w.heap.size + 1) (w.alloc (.cells #[.int .i64 0, .string ⟨#[]⟩, .int .i64 0, .int .i64 0] 34)) wr) (fun a _ => l.length - (intOf a).toNat)
  case atStart =>
    refine ⟨1, l.length, [], rfl, h0, by omega, rfl, by simp, ?_, (Below.refl _ _).alloc (by simp) _⟩
    have hf := Lib.fresh_isBuilder 53 5 (w.alloc (.cells #[.int .i64 0, .string ⟨#[]⟩, .int .i64 0, .int .i64 0] 34))
    have hbc : Lib.byteCells [] = [] := rfl
    rw [hbc]
    simpa using Lib.IsBuilderF.of hf
  case round =>
    obtain ⟨k, m, out, rfl, hk, hm, hq, ho, hI, hb⟩ := hrel
    obtain ⟨hc, hf⟩ := bcell hb
    obtain ⟨m, rfl⟩ : ∃ m', m = m' + 1 := ⟨m - 1, by omega⟩
    have hQ : Hid (quoteF (m + 1) (l.drop k) out k = quotedM l) := hq
    clear hq
    have hlt := indexByte_lt (l.drop k) 39
    have hlen : (l.drop k).length = l.length - k := by simp
    obtain ⟨j, hj⟩ : ∃ j : Int, Lib.indexByte (l.drop k) 39 = j := ⟨_, rfl⟩
    rw [hj, hlen] at hlt
    have HJ : Hid (Lib.indexByte (l.drop k) 39 = j) := hj
    clear hj hlen
    have HS : Hid ((⟨l.toArray⟩ : ByteArray).size = l.length) := hsz
    clear hsz
    by_cases hj0 : j < 0
    · have hjd : decide (j < 0) = true := by simpa using hj0
      have hQ2 : Hid (quotedM l = ⟨tok0, 0, 3⟩) := by
        have h1 := hQ.out
        have h2 := HJ.out
        unfold quoteF at h1
        rw [h2, if_pos hj0] at h1
        exact h1.symm
      go_wp2_with (go_at_call 26; refine (index_w l k j _ HJ.out).mono ?_; rintro e w' ⟨rfl, rfl⟩)
      refine bodyPost_ret (v := tk3V ⟨tok0, 0, 3⟩) (by simp [results, Tryd.results16, go_sem, tk3V, tokV, tok0, hc]) rfl ⟨by rw [hQ2.out], ?_⟩
      exact ((((((Below.refl _ w).alloc (Nat.le_refl _) _).trans (hb.mono (Nat.le_succ _))).setCell (Nat.le_refl _) _).setCell (Nat.le_refl _) _).setCell (Nat.le_refl _) _).setCell (Nat.le_refl _) _
    · obtain ⟨i, rfl⟩ : ∃ i : Nat, j = (i : Int) := ⟨j.toNat, by omega⟩
      have hjd : decide ((i : Int) < 0) = false := by simp
      have hBw : w.heap.size + 1 ≤ wr.heap.size := by have := hb.size; simpa using this
      obtain ⟨b, HP⟩ : ∃ b : Bool, Hid (prefB (l.drop (k + (i + 1))) [39] = b) := ⟨_, rfl⟩
      have hs1 : ∀ w : World, (Instr.slice 9 (.string ⟨l.toArray⟩) (some (.int .i64 (k : Int))) (some (.int .i64 ((k : Int) + (i : Int)))) none).run Tryd.prog w = .ok (.string ((⟨l.toArray⟩ : ByteArray).extract k (k + i))) w := fun w => by
        rw [run_slice_string _ _ _ _ _ _ _ Tryd.underlying9 (by omega) (by omega) (by rw [HS.out]; omega), show ((k : Int) + (i : Int)).toNat = k + i from by omega, Int.toNat_natCast]
      have hs2 : ∀ w : World, (Instr.slice 9 (.string ⟨l.toArray⟩) (some (.int .i64 ((k : Int) + ((i : Int) + 1)))) none none).run Tryd.prog w = .ok (.string ((⟨l.toArray⟩ : ByteArray).extract (k + (i + 1)) l.length)) w := fun w => by
        rw [run_slice_string_from_if _ _ _ _ _ Tryd.underlying9, if_pos (by rw [HS.out]; omega), show ((k : Int) + ((i : Int) + 1)).toNat = k + (i + 1) from by omega, HS.out]
      go_wp2_with (first | (go_at_call 26; refine (index_w l k i _ HJ.out).mono ?_; rintro e w' ⟨rfl, rfl⟩) | (go_at_call 27; refine (string_w l k i _ _ out _ hI (by omega) (by omega) hBw).mono ?_))
      rintro e w1 ⟨⟨n, rfl⟩, hI1, hb1⟩
      clear hs1 hI
      have hb2 := hb.trans hb1
      clear hb hb1 hc hf
      obtain ⟨hc, hf⟩ := bcell hb2
      cases b with
      | true =>
        go_wp2_with (go_at_call 13; refine (prefix_w l (k + (i + 1)) true _ HP.out).mono ?_; rintro e w' ⟨rfl, rfl⟩)
        have hBw1 : w.heap.size + 1 ≤ w'.heap.size := by have := hb2.size; simpa using this
        refine (sb_byte (w.heap.size + 1) (w.heap.size + 1) _ 39 _ hI1 (by rw [Lib.byteCells_length]; simp; omega) hBw1).mono ?_
        rintro e w2 ⟨rfl, hI2, hb3⟩
        have hb4 := hb2.trans hb3
        clear hb2 hb3 hc hf hI1
        obtain ⟨hc, hf⟩ := bcell hb4
        go_wp2
        go_roundw
        case rel =>
          have h1 := hQ.out
          have h2 := HP.out
          unfold quoteF at h1
          rw [HJ.out, if_neg (by omega)] at h1
          simp only [Int.toNat_natCast, List.drop_drop] at h1
          rw [h2, if_pos rfl] at h1
          have h3 : 1 ≤ (l.drop (k + (i + 1))).length := by
            cases hd : l.drop (k + (i + 1)) with
            | nil => rw [hd] at h2; cases h2
            | cons => simp
          simp only [List.length_drop] at h3
          refine ⟨k + i + 2, m, out ++ (l.drop k).take i ++ [39], by go_num, by omega, by omega, ?_, ?_, ?_, hb4⟩
          · rw [show k + i + 2 = k + (i + 2) from by omega]
            exact h1
          · simp; omega
          · rw [Lib.byteCells_append]; exact .inr hI2
        case measure => simp [intOf]; omega
      | false =>
        go_wp2_with (go_at_call 13; refine (prefix_w l (k + (i + 1)) false _ HP.out).mono ?_; rintro e w' ⟨rfl, rfl⟩)
        have hBw1 : w.heap.size + 1 ≤ w'.heap.size := by have := hb2.size; simpa using this
        have hbl : (Lib.byteCells (out ++ (l.drop k).take i)).length = out.length + min i (l.length - k) := by rw [Lib.byteCells_length]; simp
        have h1 := hQ.out
        have h2 := HP.out
        unfold quoteF at h1
        rw [HJ.out, if_neg (by omega)] at h1
        simp only [Int.toNat_natCast, List.drop_drop] at h1
        rw [h2] at h1
        simp only [Bool.false_eq_true, if_false, List.length_append, List.length_take, List.length_drop] at h1
        obtain ⟨q, hq⟩ : ∃ q : Nat, q = out.length + min i (l.length - k) := ⟨_, rfl⟩
        rw [← hq] at h1 hbl
        have hql : q ≤ 100000 := by omega
        by_cases h40 : (q : Int) > 40
        · rw [if_pos h40] at h1
          have HQ : Hid (quotedM l = ⟨tok0, 0, 2⟩) := h1.symm
          have HL : Hid ((Lib.byteCells (out ++ (l.drop k).take i)).length = q) := hbl
          have hd40 : decide ((40 : Int) < (q : Int)) = true := by simpa using h40
          clear h1 h2 hbl hq
          refine (Tryd.Builder_Len_f (w.heap.size + 1) (w.heap.size + 1) _ _ hI1).mono ?_
          rintro e w' ⟨rfl, rfl⟩
          rw [HL.out]
          go_wp2
          refine bodyPost_ret (v := tk3V ⟨tok0, 0, 2⟩) (by simp [results, Tryd.results16, go_sem, tk3V, tokV, tok0, hc]) rfl ⟨by rw [HQ.out], ?_⟩
          exact ((((((Below.refl _ w).alloc (Nat.le_refl _) _).trans (hb2.mono (Nat.le_succ _))).setCell (Nat.le_refl _) _).setCell (Nat.le_refl _) _).setCell (Nat.le_refl _) _).setCell (Nat.le_refl _) _
        · rw [if_neg h40] at h1
          have HQ : Hid (quotedM l = ⟨⟨4, out ++ (l.drop k).take i, 0, 0⟩, k + (i + 1), 0⟩) := h1.symm
          have HL : Hid ((Lib.byteCells (out ++ (l.drop k).take i)).length = q) := hbl
          have hd40 : decide ((40 : Int) < (q : Int)) = false := by simpa using h40
          clear h1 h2 hbl hq
          refine (Tryd.Builder_Len_f (w.heap.size + 1) (w.heap.size + 1) _ _ hI1).mono ?_
          rintro e w' ⟨rfl, rfl⟩
          rw [HL.out]
          go_wp2_with (go_at_call 30; refine (Tryd.Builder_String_any_k (w.heap.size + 1) (w.heap.size + 1) _ _ hI1 hBw1).mono ?_)
          rintro e w2 ⟨rfl, _, hb3, _⟩
          have hb4 := hb2.trans hb3
          clear hb2 hb3 hc hf hI1
          obtain ⟨hc, hf⟩ := bcell hb4
          go_wp2
          refine bodyPost_ret (v := tk3V ⟨⟨4, out ++ (l.drop k).take i, 0, 0⟩, k + (i + 1), 0⟩) (by simp [results, Tryd.results16, go_sem, tk3V, tokV, tok0, hc]) rfl ⟨by rw [HQ.out], ?_⟩
          exact ((((((Below.refl _ w).alloc (Nat.le_refl _) _).trans (hb4.mono (Nat.le_succ _))).setCell (Nat.le_refl _) _).setCell (Nat.le_refl _) _).setCell (Nat.le_refl _) _).setCell (Nat.le_refl _) _
end Go.Proofs.YtolhbjfaahcekaaDoor
end
section
/- A function of values that is proved at the machine, as a contract of this logic. -/
set_option linter.unusedVariables false
set_option linter.unusedSimpArgs false
namespace Go.Proofs.YtolhbjfaahcekaaDoor
open Go Go.Proofs Go.RowKit

theorem Inv.below {G : Gh} {w w' : World} (h : Inv G ⟨[], []⟩ w) (hb : Below w.heap.size w w') : Inv G ⟨[], []⟩ w' := by
  have hr : G.ref = [] := List.eq_nil_of_length_eq_zero h.rlen
  refine ⟨⟨hb.os.trans h.kept.os, hb.tape.trans h.kept.tape, hb.output.trans h.kept.output, Nat.le_trans h.kept.size hb.size, fun b h1 h2 h3 => ?_⟩, fun b i x e => ?_, h.rlen, ?_, h.inj, ?_, ?_, h.fresh, h.laid⟩
  · rw [hb.block b (Nat.lt_of_lt_of_le h1 h.kept.size), h.kept.block b h1 h2 h3]
  · rw [hb.cell (p := ⟨b, i, none⟩) (h.dat_lt e)]
    exact h.dat b i x e
  · intro r b e
    rw [hr] at e
    simp at e
  · intro k n e
    simp at e
  · intro k k' n n' b c sz c' sz' e
    simp at e
theorem Pure.ofCalls {P : Program} {f : FuncId} {args : List PV} {x : PV} {v : Value} (hE : Enters P f) (hx : ∀ G, Rep G x v)
    (h : ∀ (G : Gh) (w : World) (vs : List Value), Inv G ⟨[], []⟩ w → Reps G args vs → Calls P f vs.toArray w fun e w' => e = .returned v ∧ Below w.heap.size w w') : Pure P f args x :=
  fun G w vs hi hv => .inl ⟨hE, (h G w vs hi hv).mono fun e w' ⟨he, hb⟩ => ⟨v, he, G, x, ⟨[], []⟩, .refl G, hi.below hb, hx G, ⟨rfl, rfl⟩, Nat.le_refl _⟩⟩
theorem rep_tok (G : Gh) (t : Tok) : Rep G (tokPV t) (tokV t) :=
  .agg _ _ (by simp [PV.isCell]) (.cons _ _ _ _ (.int _ _) (.cons _ _ _ _ (.str _) (.cons _ _ _ _ (.int _ _) (.cons _ _ _ _ (.int _ _) .nil))))
theorem quoted_pc {l : Str} (h0 : l ≠ []) (hn : l.length ≤ 2000) : Pure Tryd.prog 16 [.str l] (tk3PV (quotedM l)) := by
  refine Pure.ofCalls (v := tk3V (quotedM l)) ⟨_, Tryd.func16, by kernel_rfl, by kernel_rfl⟩ (fun G => .tup _ _ (.cons _ _ _ _ (rep_tok G _) (.cons _ _ _ _ (.int _ _) (.cons _ _ _ _ (.int _ _) .nil)))) ?_
  intro G w vs hi hv
  cases hv with
  | cons _ _ _ _ h1 h2 =>
  cases h1
  cases h2
  exact quoted_walk l w (List.length_pos_iff.2 h0) hn
theorem lex_pc (s : Str) : Pure Tryd.prog 6 [.str s] (.tup [toksPV (lexM s).1, ftPV (lexM s).2]) := tokens_pc fun r h1 h2 => quoted_pc h1 h2
end Go.Proofs.YtolhbjfaahcekaaDoor
end
section
/- From a contract of this logic to a run of the machine; at a row's end. -/
set_option linter.unusedVariables false
set_option linter.unusedSimpArgs false
namespace Go.Proofs.YtolhbjfaahcekaaDoor
open Go Go.Proofs Go.RowKit Go.WideShapes Go.ChangeShapes

def startGh (w : World) : Gh := ⟨w, fun _ => False, fun _ => False, fun _ => [], [], fun _ _ => none⟩
theorem start_inv (w : World) (hl : NG ≤ w.heap.size ∧ TabFacts w) : Inv (startGh w) ⟨[], []⟩ w where
  kept := ⟨rfl, rfl, rfl, Nat.le_refl _, fun _ _ _ _ => rfl⟩
  dat := fun b i x e => by simp [startGh] at e
  rlen := rfl
  box := fun r b e => by simp [startGh] at e
  inj := List.nodup_nil
  own := fun k n e => by simp at e
  apart := fun k k' n n' b c sz c' sz' e => by simp at e
  fresh := fun _ _ _ => rfl
  laid := ⟨hl.1, fun _ _ h => h, fun _ _ h => h, hl.2⟩
theorem Pure.calls {P : Program} {f : FuncId} {args : List PV} {x : PV} (h : Pure P f args x) (hE : Enters P f) {w : World} (hl : NG ≤ w.heap.size ∧ TabFacts w) {vs : List Value} (hv : Reps (startGh w) args vs) :
    Calls P f vs.toArray w fun e w' => ∃ v G, e = .returned v ∧ Rep G x v ∧ Below w.heap.size w w' := by
  rcases h (startGh w) w vs (start_inv w hl) hv with ⟨_, hc⟩ | ⟨v, w', hr, _⟩
  · refine hc.mono ?_
    rintro e w' ⟨v, rfl, G', r, st', hle, hi, hrep, ⟨rfl, rfl⟩, _⟩
    refine ⟨v, G', rfl, hrep, ?_⟩
    have hk := hi.kept
    rw [hle.w0, hle.pub, hle.pob] at hk
    exact ⟨hk.os, hk.tape, hk.output, hk.size, fun b hb => hk.block b hb (fun h => h) (fun h => h)⟩
  · obtain ⟨fn, hf, hname, hb⟩ := hE
    exfalso
    cases hbody : fn.body with
    | none => simp [hbody] at hb
    | some c =>
      have hn : ¬ fn.name = "runtime.NumGoroutine" := by simpa using hname
      have : (callFunc f vs.toArray).run P w = .ok (.enter f vs.toArray) w := by
        simp [callFunc, hf, hbody, hn]
      rw [this] at hr
      cases hr
theorem post_of_below {H : Type} {enc : TypeId × Value → H} {P : Program} {f : Func} {s : ChangeSpec} {apart fresh handsOn again : Bool} {W W' : World} {args : Array Value} {v : Value} {ds gs : List (DataW H)} {before pa pv : List MemPlace}
    (hW : DataW.Whole enc P f.params.toList s.vars apart W args.toList ds gs before)
    (hres : ∀ (b : Nat) (sp : Nat → Bool) (hd : Bool), DataW.TrodAll enc P W' b sp hd f.resultTypes.toList (v.resultList f.resultTypes.size) (s.fn H (ds ++ gs)).results [])
    (hargs : ∀ sp : Nat → Bool, (∀ p ∈ before, sp p.block = true) → DataW.TrodAll enc P W' 0 sp true f.params.toList args.toList (s.fn H (ds ++ gs)).args pa)
    (hvars : ∀ sp : Nat → Bool, (∀ p ∈ before, sp p.block = true) → DataW.TrodVars enc P W' sp s.vars (s.fn H (ds ++ gs)).vars pv)
    (hps : before = pa ++ pv) (hb : Below W.heap.size W W')
    (hok : ∀ (j : Nat) (t : TypeId) (r : Value), f.resultTypes[j]? = some t → (v.resultList f.resultTypes.size)[j]? = some r → Value.okWide P W' .any 0 t r) :
    s.post enc P f apart fresh handsOn again W args v W' := by
  have hlt : ∀ p ∈ before, p.block < W.heap.size := fun p hp => hW.lt p hp
  have hold : ∀ p ∈ before, (fun b => decide (b < W.heap.size)) p.block = true := fun p hp => by simpa using hlt p hp
  refine ⟨ds, gs, before, [], pa, pv, hW, hres _ _ _, hargs _ hold, hvars _ hold, World.keptBut_mono (fun p hp => ⟨hp, ?_⟩) (hb.frame (· ∈ before)), fun _ => ?_⟩
  · rw [hps, List.mem_append] at hp
    exact Or.inr hp
  · obtain ⟨_, _, _, _, _, hz, hn⟩ := hW
    refine ⟨hok, _, _, ([] ++ pa) ++ pv, ⟨[] ++ pa, pv, trodAll_append (hargs _ (fun _ _ => rfl)) (hres _ _ _), hvars _ (fun _ _ => rfl), rfl, ?_, ?_⟩, ?_⟩
    · intro b off hp
      have hin : MemPlace.cell b off ∈ before := by rw [hps]; simpa using hp
      rw [hb.frozen (hlt _ hin)]
      exact hz b off hin
    · intro ha
      have := hn ha
      rw [hps] at this
      simpa using this
    · intro p hp _
      rw [hps]
      simpa using hp
theorem Tryd.own : ownKnob Tryd.prog.godebug = none := by kernel_rfl
theorem Tryd.laidOut : laidOutB Tryd.prog = true := by kernel_rfl
end Go.Proofs.YtolhbjfaahcekaaDoor
end
section
/- At a row's end, where package variables are listed. -/
set_option linter.unusedVariables false
set_option linter.unusedSimpArgs false
namespace Go.Proofs.YtolhbjfaahcekaaDoor
open Go Go.Proofs Go.RowKit Go.WideShapes Go.ChangeShapes

/-- The plain wrap, the listed variables and the world's shape kept. -/
theorem returnsIn_laid {H : Type} {enc : TypeId × Value → H} {a : Assume} {C : Checked} {os : Os} {f : FuncId} {fn : Func} {s : ChangeSpec} {conds : List PathCond} {apart fresh handsOn again : Bool} {X : World → Array Value → Prop}
    (hX : ∀ (w w' : World) (args : Array Value), w.heap = w'.heap → X w args → X w' args)
    (own : ownKnob C.prog.godebug = none) (started : os.Started) (noInit : C.prog.inits.idxOf? f = none) (hfn : C.prog.funcs[f]? = some fn)
    (witness : ∃ (w : World) (tape : Tape) (i : Input), w.os = os ∧ (w.forCall tape i).Shaped C.prog ∧ i.vars = [] ∧ Input.okWide C.prog (w.forCall tape i) .any w.heap.size f i ∧
      ((s.pre enc C.prog fn conds apart (w.forCall tape i).memory i.args ∧ X (w.forCall tape i).memory i.args) ∧ sizedMet enc C.prog fn (OpenSpec.ofChange s) apart (w.forCall tape i).memory i.args) ∧ a.holds C.prog (lone (Frame.enter C.prog f i.args .normal) [] (w.forCall tape i)))
    (contract : ∀ (W : World) (base : Nat) (args : Array Value) (ds gs : List (DataW H)) (before : List MemPlace),
      (∀ (j : Nat) t v, fn.params[j]? = some t → args[j]? = some v → Value.okWide C.prog W .any base t v) →
      DataW.Whole enc C.prog fn.params.toList s.vars apart W args.toList ds gs before →
      W.ShapedOpen C.prog → X W args →
      Calls C.prog f args W fun e W' => ∃ v, e = .returned v ∧ s.post enc C.prog fn apart fresh handsOn again W args v W') :
    ReturnsInHanded a C os f .any (fun w args => (s.pre enc C.prog fn conds apart w args ∧ X w args) ∧ sizedMet enc C.prog fn (OpenSpec.ofChange s) apart w args) (s.post enc C.prog fn apart fresh handsOn again) := by
  refine returnsInHanded_of_calls own started noInit witness ?_
  intro w tape i _ hsh _ hok hpre hholds
  obtain ⟨_, _, _, fn', hfn', _, _, _, _, hval⟩ := hok
  have e : fn' = fn := Option.some.inj (hfn'.symm.trans hfn)
  subst e
  obtain ⟨⟨⟨ds, gs, before, hw, hc⟩, hx⟩, hz⟩ := hpre
  have hw' := DataW.Whole.of_heap (w' := w.forCall tape i) (by rfl) hw
  refine (contract (w.forCall tape i) w.heap.size i.args ds gs before hval hw' hsh (hX _ _ _ (by rfl) hx)).mono fun e W' ⟨v, he, hp⟩ => ?_
  subst he
  exact ChangeSpec.post_blind hp

def laidL : List (String × DataW Unit) := [("math/bits.deBruijn32tab", Rows.laid_math_bits_deBruijn32tab), ("math/bits.deBruijn64tab", Rows.laid_math_bits_deBruijn64tab), ("internal/strconv.uint64pow10", Rows.laid_internal_strconv_uint64pow10), ("unicode/utf8.acceptRanges", Rows.laid_unicode_utf8_acceptRanges), ("unicode/utf8.first", Rows.laid_unicode_utf8_first)]
set_option maxRecDepth 100000 in
theorem last_row : (((begin Tryd.prog (fun _ _ => 0) default).world.heap[5]?).bind Obj.row?).isSome = true := by kernel_rfl
theorem gsize : 5 < Tryd.prog.globals.size := by
  have : decide (5 < Tryd.prog.globals.size) = true := by kernel_rfl
  exact of_decide_eq_true this
set_option maxRecDepth 100000 in
theorem maxlen_row : ((begin Tryd.prog (fun _ _ => 0) default).world.heap[1]?).bind Obj.row? = some (#[.int .i64 0], 3) := by kernel_rfl
set_option maxRecDepth 100000 in
theorem tabs_of_laid {W : World} (hL : laidMetH Tryd.prog laidL W) (hs : W.ShapedOpen Tryd.prog) : NG ≤ W.heap.size ∧ TabFacts W := by
  rw [MakeChecks.laidMetH_plain _ _ _ (by kernel_rfl)] at hL
  refine ⟨?_, ?_, ?_⟩
  · obtain ⟨⟨zero, t⟩, h0⟩ := Option.isSome_iff_exists.1 last_row
    obtain ⟨cs, h1, _⟩ := hs.1 5 zero t gsize h0
    have := (Array.getElem?_eq_some_iff.1 h1).1
    show 6 ≤ W.heap.size
    omega
  · have h2 : laidMet Tryd.prog (("internal/strconv.uint64pow10", Lib.tabData .u64 Lib.pow10Tab) :: [("unicode/utf8.acceptRanges", Rows.laid_unicode_utf8_acceptRanges), ("unicode/utf8.first", Rows.laid_unicode_utf8_first)]) W := hL.tail.tail
    exact Lib.tabIs_of_head (g := 0) (t := 82) (e := 73) (n := 20) (by kernel_rfl) (by kernel_rfl) (by kernel_rfl) (by kernel_rfl) (by kernel_rfl) (by kernel_rfl) h2
  · exact cell_of_shapedOpen_int (zero := #[.int .i64 0]) (t := 3) hs (by have := gsize; omega) maxlen_row rfl (by kernel_rfl) (by kernel_rfl) (by kernel_rfl)
set_option maxRecDepth 100000 in
theorem witness_met (os : Os) (args : Array Value) : laidMetH Tryd.prog laidL ((World.laidAll Tryd.prog os laidL).forCall (fun _ _ => 0) ⟨#[], args, []⟩).memory := by
  rw [MakeChecks.laidMetH_plain _ _ _ (by kernel_rfl)]
  exact laidMet_laidAll _ (by kernel_rfl) (by kernel_rfl)
set_option maxRecDepth 100000 in
theorem okWide_cells {W : World} {base : Nat} {t : TypeId} {v : Value} {ts : List TypeId} (h : Value.okWide Tryd.prog W .any base t v) (hk : (match Tryd.prog.underlying t with | some (.struct _) => true | _ => false) = true) (hts : Tryd.prog.cellTypes Tryd.prog.depth t = some ts) (hc : Tryd.prog.cellsOf t = ts.length) :
    ∃ cs : Array Value, v = .agg cs ∧ cs.size = ts.length ∧ ∀ (i : Nat) (x : Value) (u : TypeId), cs[i]? = some x → ts[i]? = some u → Cell.okWide Tryd.prog W .any base u x := by
  unfold Value.okWide at h
  split at h
  · obtain ⟨cs, rfl, h1, ts', h2, _, h3⟩ := h
    rw [hts] at h2
    cases h2
    refine ⟨cs, rfl, h1.trans hc, fun i x u hx hu => ?_⟩
    obtain ⟨u', h4, h5⟩ := h3 i x hx
    have hi : i < ts.length := (List.getElem?_eq_some_iff.1 hu).1
    rw [Nat.mod_eq_of_lt hi, hu] at h4
    cases h4
    exact h5
  · rename_i heq
    rw [heq] at hk
    cases hk
  · rename_i h1 h2
    exfalso
    cases hu : Tryd.prog.underlying t with
    | none => rw [hu] at hk; cases hk
    | some d =>
      cases d with
      | struct fs => exact h1 fs hu
      | _ => rw [hu] at hk; cases hk
set_option maxRecDepth 100000 in
theorem cell_int {W : World} {base : Nat} {x : Value} (h : Cell.okWide Tryd.prog W .any base 3 x) : ∃ n : Int, x = .int .i64 n ∧ -9223372036854775808 ≤ n ∧ n ≤ 9223372036854775807 := by
  unfold Cell.okWide at h
  rw [Tryd.underlying3] at h
  unfold Cell.ok at h
  rw [Tryd.underlying3] at h
  cases x <;> simp at h
  obtain ⟨rfl, h1, h2⟩ := h
  exact ⟨_, rfl, h1, h2⟩
set_option maxRecDepth 100000 in
theorem cell_str {W : World} {base : Nat} {x : Value} (h : Cell.okWide Tryd.prog W .any base 9 x) : ∃ s : ByteArray, x = .string s := by
  unfold Cell.okWide at h
  rw [Tryd.underlying9] at h
  unfold Cell.ok at h
  rw [Tryd.underlying9] at h
  cases x <;> simp at h
  exact ⟨_, rfl⟩
end Go.Proofs.YtolhbjfaahcekaaDoor
end
section
/- Plain: the lexer where a line more stands behind, and further on. -/
set_option linter.unusedVariables false
set_option linter.unusedSimpArgs false
namespace Go.Proofs.YtolhbjfaahcekaaDoor

theorem rowN_ext {p : UInt8 → Bool} {b : UInt8} (hp : p b = false) (t : Str) : ∀ s : Str, rowN p (s ++ b :: t) = rowN p s
  | [] => by simp [rowN, hp]
  | c :: s => by
    have ih := rowN_ext hp t s
    simp only [rowN, List.cons_append, List.takeWhile_cons] at ih ⊢
    cases p c
    · rfl
    · simp only [if_true, List.length_cons, ih]
theorem prefB_iff {s x : Str} : prefB s x = true ↔ x <+: s := by
  simp only [prefB, Bool.and_eq_true, decide_eq_true_eq, beq_iff_eq]
  constructor
  · rintro ⟨_, h⟩
    exact ⟨s.drop x.length, by conv => lhs; arg 1; rw [← h]
                               exact List.take_append_drop _ _⟩
  · rintro ⟨y, rfl⟩
    exact ⟨by simp; omega, by simp⟩
theorem pref_ext {b : UInt8} {t : Str} : ∀ {x s : Str}, b ∉ x → (x <+: s ++ b :: t ↔ x <+: s)
  | [], s, _ => by simp
  | a :: x, [], h => by
    have : a ≠ b := fun e => h (by simp [e])
    simp [this]
  | a :: x, d :: s, h => by
    simp only [List.cons_append, List.cons_prefix_cons]
    rw [pref_ext (x := x) (s := s) (fun e => h (by simp [e]))]
theorem prefB_ext {b : UInt8} {t x : Str} (s : Str) (h : b ∉ x) : prefB (s ++ b :: t) x = prefB s x := by
  rw [Bool.eq_iff_iff, prefB_iff, prefB_iff, pref_ext h]
theorem blankF_fuel : ∀ (n m : Nat) (s : Str), s.length ≤ n → s.length ≤ m → blankF n s = blankF m s
  | 0, m, s, h, h' => by
    have : s = [] := List.length_eq_zero_iff.1 (by omega)
    subst this
    cases m <;> rfl
  | n + 1, 0, s, h, h' => by
    have : s = [] := List.length_eq_zero_iff.1 (by omega)
    subst this
    rfl
  | n + 1, m + 1, [], h, h' => rfl
  | n + 1, m + 1, c :: r, h, h' => by
    simp only [List.length_cons] at h h'
    simp only [blankF]
    split
    · rw [blankF_fuel n m r (by omega) (by omega)]
    · split
      · rename_i hd
        have hk : 2 ≤ rowN lineB (c :: r) := rowN_dash (by simp only [Bool.and_eq_true] at hd; exact hd.2)
        rw [blankF_fuel n m _ (by simp only [List.length_drop, List.length_cons]; omega) (by simp only [List.length_drop, List.length_cons]; omega)]
      · rfl
theorem blankN_cons (c : UInt8) (r : Str) : blankN (c :: r) = if blankB c then 1 + blankN r else if ((c.toNat : Int) == 45) && prefB (c :: r) sDash then rowN lineB (c :: r) + blankN ((c :: r).drop (rowN lineB (c :: r))) else 0 := by
  show blankF (r.length + 1) (c :: r) = _
  simp only [blankF]
  split
  · rfl
  · split
    · rename_i hd
      have hk : 2 ≤ rowN lineB (c :: r) := rowN_dash (by simp only [Bool.and_eq_true] at hd; exact hd.2)
      rw [blankF_fuel r.length ((c :: r).drop (rowN lineB (c :: r))).length _ (by simp only [List.length_drop, List.length_cons]; omega) (Nat.le_refl _)]
      rfl
    · rfl
theorem blankN_ext (t : Str) : ∀ (n : Nat) (s : Str), s.length ≤ n → blankN (s ++ 10 :: t) = if blankN s = s.length then s.length + 1 + blankN t else blankN s
  | n, [], _ => by
    have h0 : blankN ([] : Str) = ([] : Str).length := rfl
    rw [if_pos h0]
    show blankN (10 :: t) = 0 + 1 + blankN t
    rw [blankN_cons, if_pos (by decide)]
  | 0, c :: r, h => by simp at h
  | n + 1, c :: r, h => by
    simp only [List.length_cons] at h
    have hl : blankN (c :: r) ≤ (c :: r).length := blankN_le _
    rw [List.cons_append, blankN_cons, blankN_cons c r]
    by_cases hb : blankB c = true
    · rw [if_pos hb, if_pos hb, blankN_ext t n r (by omega)]
      simp only [List.length_cons]
      by_cases h1 : blankN r = r.length
      · rw [if_pos h1, if_pos (by omega)]; omega
      · rw [if_neg h1, if_neg (by omega)]
    rw [if_neg hb, if_neg hb]
    have hp : prefB (c :: (r ++ 10 :: t)) sDash = prefB (c :: r) sDash := prefB_ext (c :: r) (by decide)
    rw [hp]
    by_cases hd : ((c.toNat : Int) == 45 && prefB (c :: r) sDash) = true
    · have hk : 2 ≤ rowN lineB (c :: r) := rowN_dash (by simp only [Bool.and_eq_true] at hd; exact hd.2)
      have hk2 := rowN_le lineB (c :: r)
      have hr : rowN lineB (c :: (r ++ 10 :: t)) = rowN lineB (c :: r) := rowN_ext (by decide) t (c :: r)
      have hdr : (c :: (r ++ 10 :: t)).drop (rowN lineB (c :: r)) = (c :: r).drop (rowN lineB (c :: r)) ++ 10 :: t := by
        rw [← List.cons_append, List.drop_append_of_le_length hk2]
      rw [if_pos hd, if_pos hd, hr, hdr]
      generalize rowN lineB (c :: r) = k at hk hk2 ⊢
      have ih := blankN_ext t n ((c :: r).drop k) (by simp only [List.length_drop, List.length_cons]; omega)
      rw [ih]
      have hl2 : ((c :: r).drop k).length = r.length + 1 - k := by simp
      rw [hl2]
      simp only [List.length_cons] at hk2 ⊢
      by_cases h1 : blankN ((c :: r).drop k) = r.length + 1 - k
      · rw [if_pos h1, if_pos (by omega)]; omega
      · rw [if_neg h1, if_neg (by omega)]
    · rw [if_neg hd, if_neg hd, if_neg (by simp)]

theorem indexByte_ext (t : Str) (c : UInt8) : ∀ (l : Str), 0 ≤ Lib.indexByte l c → Lib.indexByte (l ++ t) c = Lib.indexByte l c
  | [], h => by simp [Lib.indexByte] at h
  | b :: l, h => by
    simp only [Lib.indexByte, List.cons_append] at h ⊢
    split
    · rfl
    · rename_i hb
      rw [if_neg hb] at h
      by_cases h2 : (Lib.indexByte l c == -1) = true
      · rw [if_pos h2] at h; omega
      · have h3 : Lib.indexByte l c ≠ -1 := by simpa using h2
        have h4 := (indexByte_lt l c).1
        rw [indexByte_ext t c l (by omega)]
theorem quoteF_ext {b : UInt8} (hb : b ≠ 39) (t : Str) : ∀ (m m' : Nat) (rest out : Str) (a : Nat), (quoteF m rest out a).e = 0 → m ≤ m' → quoteF m' (rest ++ b :: t) out a = quoteF m rest out a
  | 0, m', rest, out, a, h, _ => by simp [quoteF] at h
  | m + 1, 0, rest, out, a, h, hm => by omega
  | m + 1, m' + 1, rest, out, a, h, hm => by
    have hlt := indexByte_lt rest 39
    unfold quoteF at h ⊢
    split at h
    · simp at h
    · rename_i h1
      rw [if_neg h1]
      have e1 := indexByte_ext (b :: t) 39 rest (by omega)
      rw [e1, if_neg h1]
      simp only at h ⊢
      have hk : (Lib.indexByte rest 39).toNat < rest.length := by omega
      rw [List.drop_append_of_le_length (by omega), prefB_ext _ (by simpa using hb), List.take_append_of_le_length (by omega)]
      split
      · rename_i hp
        rw [if_pos hp] at h
        have h3 : 1 ≤ (rest.drop ((Lib.indexByte rest 39).toNat + 1)).length := by
          cases hd : rest.drop ((Lib.indexByte rest 39).toNat + 1) with
          | nil => rw [hd] at hp; cases hp
          | cons => simp
        simp only [List.length_drop] at h3
        rw [List.drop_append_of_le_length (by omega)]
        exact quoteF_ext hb t m m' _ _ _ h (by omega)
      · rfl
theorem signF_ext {b : UInt8} (t : Str) : ∀ (l : List Str) (s : Str), (∀ x ∈ l, b ∉ x) → signF l (s ++ b :: t) = signF l s
  | [], s, _ => rfl
  | x :: l, s, h => by
    simp only [signF]
    rw [prefB_ext _ (h x (by simp)), signF_ext t l s fun y hy => h y (by simp [hy])]
theorem plainM_ext {b : UInt8} (hb : b = 10 ∨ b = 32) (t : Str) {s : Str} (hs : s ≠ []) {n : Nat} (hn : n ≤ s.length) : plainM (s ++ b :: t) n = plainM s n := by
  have hg : glued (s ++ b :: t) n = glued s n := by
    unfold glued
    rcases Nat.lt_or_ge n s.length with h | h
    · rw [List.getElem?_append_left h]
    · have : n = s.length := by omega
      subst this
      rw [List.getElem?_append_right (Nat.le_refl _), Nat.sub_self, List.getElem?_eq_none (Nat.le_refl _)]
      rcases hb with rfl | rfl <;> rfl
  unfold plainM
  rw [hg, List.take_append_of_le_length hn]
  cases s with
  | nil => exact absurd rfl hs
  | cons c r => rfl
theorem tokenM_ext {b : UInt8} (hb : b = 10 ∨ b = 32) (t : Str) {s : Str} (hs : s ≠ []) (h : (tokenM s).e = 0) : tokenM (s ++ b :: t) = tokenM s := by
  cases s with
  | nil => exact absurd rfl hs
  | cons c r =>
    have hp : ∀ p : UInt8 → Bool, p b = false → plain3 (c :: (r ++ b :: t)) (rowN p (c :: (r ++ b :: t))) = plain3 (c :: r) (rowN p (c :: r)) := by
      intro p h10
      have e1 : rowN p (c :: (r ++ b :: t)) = rowN p (c :: r) := rowN_ext h10 t (c :: r)
      have e2 : plainM (c :: (r ++ b :: t)) (rowN p (c :: r)) = plainM (c :: r) (rowN p (c :: r)) := plainM_ext hb t (s := c :: r) (by simp) (rowN_le p _)
      simp only [plain3, e1, e2]
    rw [List.cons_append]
    simp only [tokenM] at h ⊢
    split
    · rename_i h1
      rw [if_pos h1] at h
      exact quoteF_ext (by rcases hb with rfl | rfl <;> decide) t _ _ _ _ _ h (by simp)
    · rename_i h1
      rw [if_neg h1] at h
      split
      · exact hp smallB (by rcases hb with rfl | rfl <;> decide)
      · rename_i h2
        rw [if_neg h2] at h
        split
        · exact hp greatB (by rcases hb with rfl | rfl <;> decide)
        · rename_i h3
          rw [if_neg h3] at h
          split
          · exact hp digitB (by rcases hb with rfl | rfl <;> decide)
          · exact signF_ext t signsL (c :: r) (by rcases hb with rfl | rfl <;> decide)
theorem tokenM_kind {s : Str} (h : (tokenM s).e = 0) : (tokenM s).t.kind ≠ 6 := by
  have hsign : ∀ l s, (signF l s).e = 0 → (signF l s).t.kind ≠ 6 := by
    intro l
    induction l with
    | nil => intro s h; simp [signF] at h
    | cons x l ih =>
      intro s h
      unfold signF at h ⊢
      split
      · simp
      · rename_i hp
        rw [if_neg hp] at h
        exact ih s h
  have hquote : ∀ m rest out a, (quoteF m rest out a).e = 0 → (quoteF m rest out a).t.kind ≠ 6 := by
    intro m
    induction m with
    | zero => intro rest out a h; simp [quoteF] at h
    | succ m ih =>
      intro rest out a h
      unfold quoteF at h ⊢
      split at h
      · simp at h
      · rename_i h1
        rw [if_neg h1]
        simp only at h ⊢
        split
        · rename_i h2
          rw [if_pos h2] at h
          exact ih _ _ _ h
        · rename_i h2
          rw [if_neg h2] at h
          split
          · rename_i h3
            rw [if_pos h3] at h
            simp at h
          · simp
  have hplain : ∀ c r n, (plainM (c :: r) n).1.kind ≠ 6 := by
    intro c r n
    unfold plainM
    (repeat' split) <;> simp_all
  cases s with
  | nil => simp [tokenM] at h
  | cons c r =>
    simp only [tokenM] at h ⊢
    split
    · rename_i h1
      rw [if_pos h1] at h
      exact hquote _ _ _ _ h
    · rename_i h1
      rw [if_neg h1] at h
      split
      · exact hplain _ _ _
      · rename_i h2
        rw [if_neg h2] at h
        split
        · exact hplain _ _ _
        · rename_i h3
          rw [if_neg h3] at h
          split
          · exact hplain _ _ _
          · rename_i h4
            rw [if_neg h4] at h
            exact hsign _ _ h

theorem lexF_fuel : ∀ (n m : Nat) (rest : Str) (a : Nat) (acc : List Tok), rest.length < n → rest.length < m → lexF n rest a acc = lexF m rest a acc
  | 0, m, rest, a, acc, h, _ => by omega
  | n + 1, 0, rest, a, acc, _, h => by omega
  | n + 1, m + 1, rest, a, acc, h, h' => by
    unfold lexF
    split
    · rfl
    · rename_i h1
      split
      · rfl
      · rename_i h2
        have := tokenM_le h1 (by simpa using h2)
        simp only [List.length_drop] at this
        exact lexF_fuel n m _ _ _ (by simp only [List.length_drop]; omega) (by simp only [List.length_drop]; omega)
def endT (a : Nat) : Tok := ⟨6, [], 0, (a : Int)⟩
theorem lexF_ext (t : Str) : ∀ (n : Nat) (rest : Str) (a : Nat) (acc : List Tok), rest.length < n → (lexF n rest a acc).2.c = 0 → (∀ x ∈ acc, x.kind ≠ 6) → ∀ m, rest.length + 1 + t.length < m →
    ∃ pre, lexF n rest a acc = (pre ++ [endT (a + rest.length)], ⟨0, 0⟩) ∧ (∀ x ∈ pre, x.kind ≠ 6) ∧ lexF m (rest ++ 10 :: t) a acc = lexF (t.length + 1) t (a + rest.length + 1) pre
  | 0, rest, a, acc, h, _, _, m, _ => by omega
  | n + 1, rest, a, acc, h, hc, hacc, 0, hm => by omega
  | n + 1, rest, a, acc, h, hc, hacc, m + 1, hm => by
    have hbl := blankN_le rest
    have hbe := blankN_ext t rest.length rest (Nat.le_refl _)
    by_cases h1 : rest.drop (blankN rest) = []
    · have hk : blankN rest = rest.length := by
        have := congrArg List.length h1
        simp at this
        omega
      refine ⟨acc, ?_, hacc, ?_⟩
      · unfold lexF
        rw [if_pos h1, hk]
        rfl
      · rw [if_pos hk] at hbe
        have hd : (rest ++ 10 :: t).drop (rest.length + 1 + blankN t) = t.drop (blankN t) := by
          rw [Nat.add_assoc, ← List.drop_drop, List.drop_left', Nat.add_comm 1, List.drop_succ_cons]
          rfl
        have hd2 : ∀ j, (rest ++ 10 :: t).drop (rest.length + 1 + blankN t + j) = t.drop (blankN t + j) := fun j => by rw [← List.drop_drop, hd, List.drop_drop]
        conv => lhs; unfold lexF
        conv => rhs; unfold lexF
        rw [hbe, hd]
        rw [show a + (rest.length + 1 + blankN t) = a + rest.length + 1 + blankN t from by omega]
        split
        · rfl
        · rename_i h2
          split
          · rfl
          · rename_i h3
            have := tokenM_le h2 (by simpa using h3)
            simp only [List.length_drop] at this
            rw [hd2]
            exact lexF_fuel m t.length _ _ _ (by simp only [List.length_drop]; omega) (by simp only [List.length_drop]; omega)
    · have hk : blankN rest ≠ rest.length := fun e => h1 (by rw [e]; exact List.drop_length)
      rw [if_neg hk] at hbe
      unfold lexF at hc
      rw [if_neg h1] at hc
      by_cases h2 : (tokenM (rest.drop (blankN rest))).e ≠ 0
      · rw [if_pos h2] at hc
        exact absurd hc h2
      rw [if_neg h2] at hc
      have h2' : (tokenM (rest.drop (blankN rest))).e = 0 := by simpa using h2
      have hle := tokenM_le h1 h2'
      simp only [List.length_drop] at hle
      have hacc' : ∀ x ∈ acc ++ [{ (tokenM (rest.drop (blankN rest))).t with at_ := ((a + blankN rest : Nat) : Int) }], x.kind ≠ 6 := by
        intro x hx
        rcases List.mem_append.1 hx with hx | hx
        · exact hacc x hx
        · simp only [List.mem_singleton] at hx
          subst hx
          exact tokenM_kind h2'
      obtain ⟨pre, e1, e2, e3⟩ := lexF_ext t n _ _ _ (by simp only [List.length_drop]; omega) hc hacc' m (by simp only [List.length_drop]; omega)
      have hlen : ((rest.drop (blankN rest + (tokenM (rest.drop (blankN rest))).n)).length) = rest.length - (blankN rest + (tokenM (rest.drop (blankN rest))).n) := by simp
      refine ⟨pre, ?_, e2, ?_⟩
      · unfold lexF
        rw [if_neg h1, if_neg h2, e1, hlen]
        congr 4
        omega
      · have hd : (rest ++ 10 :: t).drop (blankN rest) = rest.drop (blankN rest) ++ 10 :: t := List.drop_append_of_le_length hbl
        have htk : tokenM ((rest ++ 10 :: t).drop (blankN rest)) = tokenM (rest.drop (blankN rest)) := by rw [hd]; exact tokenM_ext (.inl rfl) t h1 h2'
        conv => lhs; unfold lexF
        rw [hbe, htk, if_neg (by rw [hd]; simp), if_neg h2, List.drop_append_of_le_length (by omega), e3, hlen]
        congr 1
        omega
def shT (d : Nat) (t : Tok) : Tok := { t with at_ := t.at_ + (d : Int) }
theorem lexF_shift (d : Nat) (P : List Tok) : ∀ (n : Nat) (rest : Str) (a : Nat) (acc : List Tok), rest.length < n → (lexF n rest a acc).2.c = 0 → lexF n rest (a + d) (P ++ acc.map (shT d)) = (P ++ (lexF n rest a acc).1.map (shT d), ⟨0, 0⟩)
  | 0, rest, a, acc, h0, h => by omega
  | n + 1, rest, a, acc, h0, h => by
    unfold lexF at h ⊢
    split
    · rename_i h1
      simp [shT]
      omega
    · rename_i h1
      rw [if_neg h1] at h
      split
      · rename_i h2
        rw [if_pos h2] at h
        exact absurd h h2
      · rename_i h2
        rw [if_neg h2] at h
        have hle := tokenM_le h1 (by simpa using h2)
        simp only [List.length_drop] at hle
        have := lexF_shift d P n _ _ _ (by simp only [List.length_drop]; omega) h
        rw [← this]
        congr 1
        · omega
        · simp [shT]
          omega
end Go.Proofs.YtolhbjfaahcekaaDoor
end
section
/- The data of statements. -/
set_option linter.unusedVariables false
set_option linter.unusedSimpArgs false
namespace Go.Proofs.YtolhbjfaahcekaaDoor
open Go

attribute [go_sem] exPV_cells exC_len exC_all exC_take exC_drop agg_exC
structure Col where
  name : Str
  kind : Int
  nn : Bool
  un : Bool
structure SetX where
  name : Str
  e : Ex
structure Itm where
  k : Int
  l : List Ex
structure Stm where
  kind : Int
  table : Str
  cols : List Col
  prim : Str
  rows : List (List Vl)
  sets : List SetX
  items : List Itm
  join : Str
  on : List Ex
  wh : List Ex
  gr : List Ex
  od : List Ex
  desc : Bool
  lim : Int
def vPV (v : Vl) : PV := .agg (vC v)
def coPV (c : Col) : PV := .agg [.str c.name, .int .i64 c.kind, .bool c.nn, .bool c.un]
def rowPV (r : List Vl) : PV := .list 3 (r.map vPV) .no
def sePV (s : SetX) : PV := .agg (.str s.name :: exC s.e)
def itPV (i : Itm) : PV := .agg [.int .i64 i.k, .list 8 (exPVs i.l) .no]
def stC (s : Stm) : List PV := [.int .i64 s.kind, .str s.table, .list 4 (s.cols.map coPV) .no, .str s.prim, .list 1 (s.rows.map rowPV) .no, .list 9 (s.sets.map sePV) .no, .list 2 (s.items.map itPV) .no,
  .str s.join, .list 8 (exPVs s.on) .no, .list 8 (exPVs s.wh) .no, .list 8 (exPVs s.gr) .no, .list 8 (exPVs s.od) .no, .bool s.desc, .int .i64 s.lim]
def stPV1 (s : Stm) : PV := .agg (stC s)
def nilPV : PV := .list 0 [] .nil
/-- A statement of a kind, as it begins. -/
def stC0 (k : Int) : List PV := [.int .i64 k, .str [], nilPV, .str [], nilPV, nilPV, nilPV, .str [], nilPV, nilPV, nilPV, nilPV, .bool false, .int .i64 (-1)]
def stm0 (k : Int) : Stm := ⟨k, [], [], [], [], [], [], [], [], [], [], [], false, -1⟩

theorem v_clean (n m : Nat) (v : Vl) : PV.clean n m (vPV v) = true := rfl
theorem co_clean (n m : Nat) (c : Col) : PV.clean n m (coPV c) = true := rfl
theorem row_clean (n m : Nat) (r : List Vl) : PV.clean n m (rowPV r) = true := by simp [rowPV, PV.clean, clean_map (v_clean n m)]
theorem se_clean (n m : Nat) (s : SetX) : PV.clean n m (sePV s) = true := by simp [sePV, PV.clean, PVs.clean, PVs.clean_data (ex_clean s.e)]
theorem it_clean (n m : Nat) (i : Itm) : PV.clean n m (itPV i) = true := by simp [itPV, PV.clean, PVs.clean, PVs.clean_data (exs_clean i.l)]
theorem st_clean (n m : Nat) (s : Stm) : PVs.clean n m (stC s) = true := by
  simp [stC, PVs.clean, PV.clean, clean_map (co_clean n m), clean_map (row_clean n m), clean_map (se_clean n m), clean_map (it_clean n m), PVs.clean_data (exs_clean _)]
theorem st0_clean (n m : Nat) (k : Int) : PVs.clean n m (stC0 k) = true := rfl
theorem st_all (s : Stm) : (stC s).all PV.isCell = true := rfl

/-- All of a state is told of within it. -/
structure StOk (st : St) : Prop where
  cell : ∀ cs ∈ st.box, cs.all PV.isCell = true
  clean : ∀ cs ∈ st.box, PVs.clean st.box.length st.len.length cs = true
theorem StOk.left {st : St} (h : StOk st) : Left st st :=
  ⟨by rw [List.take_length]; exact Boxes.refl fun cs hc c hx => List.all_eq_true.1 (h.cell cs hc) c hx, List.take_length .., h.clean⟩
/-- What is behind a state's boxes is forgotten. -/
theorem StOk.left_app {box rest : List (List PV)} {len more : List Nat} (h : StOk ⟨box, len⟩) : Left ⟨box ++ rest, len ++ more⟩ ⟨box, len⟩ :=
  ⟨by simp only [List.take_left']; exact Boxes.refl fun cs hc c hx => List.all_eq_true.1 (h.cell cs hc) c hx, List.take_left' rfl, h.clean⟩
theorem StOk.mk' {box : List (List PV)} {len : List Nat} (h : ∀ cs ∈ box, cs.all PV.isCell = true ∧ PVs.clean box.length len.length cs = true) : StOk ⟨box, len⟩ := ⟨fun cs hc => (h cs hc).1, fun cs hc => (h cs hc).2⟩
end Go.Proofs.YtolhbjfaahcekaaDoor
end
section
/- Values: what is wrong with one, how it is written. -/
set_option linter.unusedVariables false
set_option linter.unusedSimpArgs false
namespace Go.Proofs.YtolhbjfaahcekaaDoor
open Go Go.Proofs Go.RowKit

def escT (t : Str) : Str := t.flatMap fun c => if c = 39 then [39, 39] else [c]
def quoteT (t : Str) : Str := 39 :: (escT t ++ [39])
def nullT : Str := [78, 85, 76, 76]
def litT (v : Vl) : Str := if v.k = 1 then Lib.itoa v.n else if v.k = 2 then quoteT v.t else nullT

theorem indexByte_at (c : UInt8) : ∀ (u r : Str), c ∉ u → Lib.indexByte (u ++ c :: r) c = u.length
  | [], r, _ => by simp [Lib.indexByte]
  | b :: u, r, h => by
    have hb : ¬ b = c := fun e => h (by simp [e])
    have ih := indexByte_at c u r fun hm => h (by simp [hm])
    simp only [Lib.indexByte, List.cons_append, ih, List.length_cons]
    split
    · rename_i e; exact absurd (by simpa using e) hb
    · split
      · rename_i e
        simp at e
      · omega
theorem esc_none : ∀ {t : Str}, 39 ∉ t → escT t = t
  | [], _ => rfl
  | c :: t, h => by
    have hc : ¬ c = 39 := fun e => h (by simp [e])
    have ih := esc_none (t := t) fun hm => h (by simp [hm])
    simp only [escT, List.flatMap_cons, if_neg hc] at ih ⊢
    rw [ih]
    rfl
theorem esc_len (t : Str) : (escT t).length ≤ 2 * t.length := by
  induction t with
  | nil => exact Nat.le_refl _
  | cons c t ih =>
    have he : escT (c :: t) = (if c = 39 then [39, 39] else [c]) ++ escT t := rfl
    rw [he, List.length_append, List.length_cons]
    split <;> simp only [List.length_cons, List.length_nil] <;> omega
theorem esc_app (u r : Str) : escT (u ++ r) = escT u ++ escT r := by simp [escT]
theorem first_at {c : UInt8} : ∀ {t : Str}, c ∈ t → ∃ u r, t = u ++ c :: r ∧ c ∉ u
  | [], h => by simp at h
  | b :: t, h => by
    by_cases hb : b = c
    · exact ⟨[], t, by simp [hb], by simp⟩
    · obtain ⟨u, r, rfl, hu⟩ := first_at (t := t) (by simpa [Ne.symm hb, eq_comm, hb] using h)
      exact ⟨b :: u, r, rfl, by simp [hu]; exact fun e => hb e.symm⟩
theorem replaceK_esc : ∀ (n : Nat) (t : Str), t.length < n → Lib.replaceK [39] [39, 39] (t.count 39) t = escT t
  | 0, t, h => by omega
  | n + 1, t, h => by
    by_cases hm : (39 : UInt8) ∈ t
    · obtain ⟨u, r, rfl, hu⟩ := first_at hm
      have hc : (u ++ 39 :: r).count 39 = r.count 39 + 1 := by
        rw [List.count_append, List.count_eq_zero.2 hu, List.count_cons_self, Nat.zero_add]
      have hi : Lib.index (u ++ 39 :: r) [39] = u.length := by rw [Lib.index_one, indexByte_at 39 u r hu]
      rw [hc, Lib.replaceK_hit _ _ _ _ u.length hi, esc_app, esc_none hu]
      have h1 : (u ++ 39 :: r).take u.length = u := by simp
      have h2 : (u ++ 39 :: r).drop (u.length + [(39 : UInt8)].length) = r := by simp
      rw [h1, h2, replaceK_esc n r (by simp at h; omega)]
      simp [escT]
    · rw [List.count_eq_zero.2 hm, esc_none hm]
      rfl
theorem replaceAll_esc (t : Str) : Lib.replaceAll t [39] [39, 39] = escT t := by
  unfold Lib.replaceAll Lib.replace Lib.replaceNum
  rw [if_neg (by decide), if_pos (.inl (by decide)), Lib.count_one]
  exact replaceK_esc _ t (Nat.lt_succ_self _)

theorem itoa_pc {n : Int} (h0 : -9223372036854775808 ≤ n) (h1 : n ≤ 9223372036854775807) : Pure Tryd.prog 11 [.int .i64 n] (.str (Lib.itoa n)) := by
  refine Pure.ofCalls (v := .string ⟨(Lib.itoa n).toArray⟩) ⟨_, Tryd.func11, by kernel_rfl, by kernel_rfl⟩ (fun G => .str _) ?_
  intro G w vs hi hv
  cases hv with
  | cons _ _ _ _ h1' h2 =>
  cases h1'
  cases h2
  refine (Tryd.strconv_Itoa n h0 h1 w hi.tab.1).mono ?_
  rintro e w' ⟨rfl, k, os, rfl⟩
  exact ⟨rfl, Lib.below_grow _ w (Nat.le_refl _) k os⟩
theorem esc_pc {t : Str} (ht : t.length ≤ 100000) : Pure Tryd.prog 12 [.str t, .str [39], .str [39, 39]] (.str (escT t)) := by
  refine Pure.ofCalls (v := .string ⟨(escT t).toArray⟩) ⟨_, Tryd.func12, by kernel_rfl, by kernel_rfl⟩ (fun G => .str _) ?_
  intro G w vs hi hv
  cases hv with
  | cons _ _ _ _ h1 h2 =>
  cases h1
  cases h2 with
  | cons _ _ _ _ h1 h2 =>
  cases h1
  cases h2 with
  | cons _ _ _ _ h1 h2 =>
  cases h1
  cases h2
  obtain ⟨m, hm⟩ := hi.tab.2
  have hsz : (⟨t.toArray⟩ : ByteArray).size = t.length := rfl
  have hcnt : Lib.countB (⟨t.toArray⟩ : ByteArray) ⟨[(39 : UInt8)].toArray⟩ ≤ t.length := by
    show Lib.count t [39] ≤ _
    rw [Lib.count_one]
    exact List.count_le_length
  refine (Tryd.strings_ReplaceAll ⟨t.toArray⟩ ⟨[39].toArray⟩ ⟨[39, 39].toArray⟩ m w (by rw [hsz]; omega) hm (Nat.le_refl 1) ?_).mono ?_
  · have h2 : (⟨[(39 : UInt8), 39].toArray⟩ : ByteArray).size = 2 := rfl
    rw [hsz, h2]
    omega
  · rintro e w' ⟨rfl, hb⟩
    refine ⟨?_, hb⟩
    show Ending.returned (Value.string ⟨(Lib.replaceAll t [39] [39, 39]).toArray⟩) = _
    rw [replaceAll_esc]

theorem literal_text {v : Vl} (h0 : -9223372036854775808 ≤ v.n) (h1 : v.n ≤ 9223372036854775807) (ht : v.t.length ≤ 100000) :
    Pure Tryd.prog 7 [vPV v] (.str (litT v)) := by
  have he := esc_len v.t
  have hA : 1 + (escT v.t).length ≤ 9223372036854775807 := by omega
  have hB : (escT v.t).length + 1 + 1 ≤ 9223372036854775807 := by omega
  unfold vPV vC
  refine PC.intro tab_ok Tryd.func7 rfl (by kernel_rfl) Tryd.ntmps7 (Nat.le_of_ble_eq_true rfl) (rs := _) (congrArg Array.toList Tryd.results7) ?_
  (repeat (refine PW.go tab_ok [] fun K hK => ?_; simp only [go_sem, ↓reduceIte, reduceCtorEq, Nat.reduceBEq, Nat.reduceAdd, Nat.reduceMul, Nat.reduceSub, Nat.reduceLT, Nat.reduceLeDiff, Nat.reduceEqDiff]; (refine hK _ _ ?_; clear hK K)))
  refine PW.seq_k fun K0 hK0 => ?_
  refine PW.go tab_ok [] fun K hK => ?_
  simp only [go_sem, ↓reduceIte, reduceCtorEq, Nat.reduceBEq, Nat.reduceAdd, Nat.reduceMul, Nat.reduceSub, Nat.reduceLT, Nat.reduceLeDiff, Nat.reduceEqDiff]
  (refine hK _ _ ?_; (try clear hK); (try clear K))
  refine PW.block ?_
  refine PW.go tab_ok [] fun K hK => ?_
  simp only [go_sem, ↓reduceIte, reduceCtorEq, Nat.reduceBEq, Nat.reduceAdd, Nat.reduceMul, Nat.reduceSub, Nat.reduceLT, Nat.reduceLeDiff, Nat.reduceEqDiff]
  (refine hK _ _ ?_; (try clear hK); (try clear K))
  refine PW.cond_split (b := v.k == 1) rfl ?_ ?_ <;> intro hb1
  · refine PW.go tab_ok [] fun K hK => ?_
    simp only [go_sem, ↓reduceIte, reduceCtorEq, Nat.reduceBEq, Nat.reduceAdd, Nat.reduceMul, Nat.reduceSub, Nat.reduceLT, Nat.reduceLeDiff, Nat.reduceEqDiff]
    refine (itoa_pc h0 h1).use (Weaks.refl _) rfl rfl ?_
    refine PO.go tab_ok [] ?_
    simp only [go_sem, ↓reduceIte, reduceCtorEq, Nat.reduceBEq, Nat.reduceAdd, Nat.reduceMul, Nat.reduceSub, Nat.reduceLT, Nat.reduceLeDiff, Nat.reduceEqDiff]
    (refine hK _ _ ?_; (try clear hK); (try clear K))
    exact PW.ret (Pure.ret rfl (by simp only [litT, if_pos (beq_iff_eq.1 hb1)]; rfl) rfl)
  refine PW.go tab_ok [] fun K hK => ?_
  simp only [go_sem, ↓reduceIte, reduceCtorEq, Nat.reduceBEq, Nat.reduceAdd, Nat.reduceMul, Nat.reduceSub, Nat.reduceLT, Nat.reduceLeDiff, Nat.reduceEqDiff]
  (refine hK _ _ ?_; (try clear hK); (try clear K))
  refine PW.cond_split (b := v.k == 2) rfl ?_ ?_ <;> intro hb2
  · refine PW.go tab_ok [] fun K hK => ?_
    simp only [go_sem, ↓reduceIte, reduceCtorEq, Nat.reduceBEq, Nat.reduceAdd, Nat.reduceMul, Nat.reduceSub, Nat.reduceLT, Nat.reduceLeDiff, Nat.reduceEqDiff]
    refine (esc_pc ht).use (Weaks.refl _) rfl rfl ?_
    refine PO.go tab_ok [] ?_
    simp only [hA, hB, go_sem, ↓reduceIte, reduceCtorEq, Nat.reduceBEq, Nat.reduceAdd, Nat.reduceMul, Nat.reduceSub, Nat.reduceLT, Nat.reduceLeDiff, Nat.reduceEqDiff]
    (refine hK _ _ ?_; (try clear hK); (try clear K))
    exact PW.ret (Pure.ret rfl (by simp only [litT, if_neg (beq_eq_false_iff_ne.1 hb1), if_pos (beq_iff_eq.1 hb2)]; rfl) rfl)
  refine PW.skip (hK0 _ _ ?_); clear hK0 K0
  (repeat (refine PW.go tab_ok [] fun K hK => ?_; simp only [go_sem, ↓reduceIte, reduceCtorEq, Nat.reduceBEq, Nat.reduceAdd, Nat.reduceMul, Nat.reduceSub, Nat.reduceLT, Nat.reduceLeDiff, Nat.reduceEqDiff]; (refine hK _ _ ?_; clear hK K)))
  exact PW.ret (Pure.ret rfl (by simp only [litT, if_neg (beq_eq_false_iff_ne.1 hb1), if_neg (beq_eq_false_iff_ne.1 hb2)]; rfl) rfl)

def nameB (s : Str) : Bool := match s with
  | [] => false
  | c :: r => decide ((c :: r).length ≤ 16) && firstB c && (rowN smallB (c :: r) == (c :: r).length)

/-! ### What is wrong with a value -/
def bareM (v : Vl) : Vl := if v.k = 0 then ⟨0, 0, []⟩ else if v.k = 1 then ⟨v.k, v.n, []⟩ else if v.k = 2 then ⟨v.k, 0, v.t⟩ else v
theorem bare_pc (v : Vl) : Pure Tryd.prog 8 [vPV v] (vPV (bareM v)) := by
  unfold vPV vC
  refine PC.intro tab_ok Tryd.func8 rfl (by kernel_rfl) Tryd.ntmps8 (Nat.le_of_ble_eq_true rfl) (rs := _) (congrArg Array.toList Tryd.results8) ?_
  (repeat (refine PW.go tab_ok [] fun K hK => ?_; simp only [go_sem, ↓reduceIte, reduceCtorEq, Nat.reduceBEq, Nat.reduceAdd, Nat.reduceMul, Nat.reduceSub, Nat.reduceLT, Nat.reduceLeDiff, Nat.reduceEqDiff]; (refine hK _ _ ?_; clear hK K)))
  refine PW.seq_k fun K0 hK0 => ?_
  refine PW.go tab_ok [] fun K hK => ?_
  simp only [go_sem, ↓reduceIte, reduceCtorEq, Nat.reduceBEq, Nat.reduceAdd, Nat.reduceMul, Nat.reduceSub, Nat.reduceLT, Nat.reduceLeDiff, Nat.reduceEqDiff]
  (refine hK _ _ ?_; (try clear hK); (try clear K))
  refine PW.block ?_
  refine PW.go tab_ok [] fun K hK => ?_
  simp only [go_sem, ↓reduceIte, reduceCtorEq, Nat.reduceBEq, Nat.reduceAdd, Nat.reduceMul, Nat.reduceSub, Nat.reduceLT, Nat.reduceLeDiff, Nat.reduceEqDiff]
  (refine hK _ _ ?_; (try clear hK); (try clear K))
  refine PW.cond_split (b := v.k == 0) rfl ?_ ?_ <;> intro hb0
  · refine PW.go tab_ok [] fun K hK => ?_
    simp only [go_sem, ↓reduceIte, reduceCtorEq, Nat.reduceBEq, Nat.reduceAdd, Nat.reduceMul, Nat.reduceSub, Nat.reduceLT, Nat.reduceLeDiff, Nat.reduceEqDiff]
    (refine hK _ _ ?_; (try clear hK); (try clear K))
    exact PW.ret (Pure.ret rfl (by simp only [bareM, if_pos (beq_iff_eq.1 hb0)]; rfl) rfl)
  refine PW.go tab_ok [] fun K hK => ?_
  simp only [go_sem, ↓reduceIte, reduceCtorEq, Nat.reduceBEq, Nat.reduceAdd, Nat.reduceMul, Nat.reduceSub, Nat.reduceLT, Nat.reduceLeDiff, Nat.reduceEqDiff]
  (refine hK _ _ ?_; (try clear hK); (try clear K))
  refine PW.cond_split (b := v.k == 1) rfl ?_ ?_ <;> intro hb1
  · refine PW.goL tab_ok [] fun K hK => ?_
    simp only [go_sem, ↓reduceIte, reduceCtorEq, Nat.reduceBEq, Nat.reduceAdd, Nat.reduceMul, Nat.reduceSub, Nat.reduceLT, Nat.reduceLeDiff, Nat.reduceEqDiff]
    (refine hK _ _ ?_; (try clear hK); (try clear K))
    (refine hK0 _ _ ?_); clear hK0 K0
    refine PW.go tab_ok [] fun K hK => ?_
    simp only [go_sem, ↓reduceIte, reduceCtorEq, Nat.reduceBEq, Nat.reduceAdd, Nat.reduceMul, Nat.reduceSub, Nat.reduceLT, Nat.reduceLeDiff, Nat.reduceEqDiff]
    (refine hK _ _ ?_; (try clear hK); (try clear K))
    exact PW.ret (Pure.ret rfl (by simp only [bareM, if_neg (beq_eq_false_iff_ne.1 hb0), if_pos (beq_iff_eq.1 hb1)]; rfl) rfl)
  refine PW.go tab_ok [] fun K hK => ?_
  simp only [go_sem, ↓reduceIte, reduceCtorEq, Nat.reduceBEq, Nat.reduceAdd, Nat.reduceMul, Nat.reduceSub, Nat.reduceLT, Nat.reduceLeDiff, Nat.reduceEqDiff]
  (refine hK _ _ ?_; (try clear hK); (try clear K))
  refine PW.cond_split (b := v.k == 2) rfl ?_ ?_ <;> intro hb2
  · refine PW.goL tab_ok [] fun K hK => ?_
    simp only [go_sem, ↓reduceIte, reduceCtorEq, Nat.reduceBEq, Nat.reduceAdd, Nat.reduceMul, Nat.reduceSub, Nat.reduceLT, Nat.reduceLeDiff, Nat.reduceEqDiff]
    (refine hK _ _ ?_; (try clear hK); (try clear K))
    (refine hK0 _ _ ?_); clear hK0 K0
    refine PW.go tab_ok [] fun K hK => ?_
    simp only [go_sem, ↓reduceIte, reduceCtorEq, Nat.reduceBEq, Nat.reduceAdd, Nat.reduceMul, Nat.reduceSub, Nat.reduceLT, Nat.reduceLeDiff, Nat.reduceEqDiff]
    (refine hK _ _ ?_; (try clear hK); (try clear K))
    exact PW.ret (Pure.ret rfl (by simp only [bareM, if_neg (beq_eq_false_iff_ne.1 hb0), if_neg (beq_eq_false_iff_ne.1 hb1), if_pos (beq_iff_eq.1 hb2)]; rfl) rfl)
  refine PW.skip (hK0 _ _ ?_); clear hK0 K0
  refine PW.go tab_ok [] fun K hK => ?_
  simp only [go_sem, ↓reduceIte, reduceCtorEq, Nat.reduceBEq, Nat.reduceAdd, Nat.reduceMul, Nat.reduceSub, Nat.reduceLT, Nat.reduceLeDiff, Nat.reduceEqDiff]
  (refine hK _ _ ?_; (try clear hK); (try clear K))
  exact PW.ret (Pure.ret rfl (by simp only [bareM, if_neg (beq_eq_false_iff_ne.1 hb0), if_neg (beq_eq_false_iff_ne.1 hb1), if_neg (beq_eq_false_iff_ne.1 hb2)]; rfl) rfl)
def vlNe (a b : Vl) : Bool := !(a.k == b.k && (a.n == b.n && (a.t == b.t && true)))
def rightV (v : Vl) : Int := if v.k < 0 ∨ v.k > 2 ∨ vlNe v (bareM v) = true then 4 else if (v.t.length : Int) > 40 then 2 else 0
theorem Right_pc (v : Vl) : Pure Tryd.prog 5 [vPV v] (.int .i64 (rightV v)) := by
  have hb := bare_pc v
  unfold vPV vC at hb ⊢
  refine PC.intro tab_ok Tryd.func5 rfl (by kernel_rfl) Tryd.ntmps5 (Nat.le_of_ble_eq_true rfl) (rs := _) (congrArg Array.toList Tryd.results5) ?_
  (repeat (refine PW.go tab_ok [] fun K hK => ?_; simp only [go_sem, ↓reduceIte, reduceCtorEq, Nat.reduceBEq, Nat.reduceAdd, Nat.reduceMul, Nat.reduceSub, Nat.reduceLT, Nat.reduceLeDiff, Nat.reduceEqDiff]; (refine hK _ _ ?_; clear hK K)))
  refine PW.seq_k fun K0 hK0 => ?_
  refine PW.block ?_
  refine PW.seq_k fun K1 hK1 => ?_
  have hgo : ∀ {env : Env} {st : St} (b : Bool), Sub env [(1, .ref 0 0), (3, .bool b)] → st = ⟨[[.int .i64 v.k, .int .i64 v.n, .str v.t]], []⟩ → (b = true ↔ v.k < 0 ∨ v.k > 2 ∨ vlNe v (bareM v) = true) → K1 env st := by
    rintro env st b hsub rfl hbad
    refine hK1 _ _ (PW.less _ hsub ?_)
    refine PW.cond_split (b := b) rfl ?_ ?_ <;> intro h1
    · (repeat (refine PW.go tab_ok [] fun K hK => ?_; simp only [go_sem, ↓reduceIte, reduceCtorEq, Nat.reduceBEq, Nat.reduceAdd, Nat.reduceMul, Nat.reduceSub, Nat.reduceLT, Nat.reduceLeDiff, Nat.reduceEqDiff]; (refine hK _ _ ?_; clear hK K)))
      exact PW.ret (Pure.ret rfl (by simp only [rightV, if_pos (hbad.1 h1)]; rfl) rfl)
    have hg : ¬ (v.k < 0 ∨ v.k > 2 ∨ vlNe v (bareM v) = true) := fun h => by rw [hbad.2 h] at h1; cases h1
    refine PW.go tab_ok [] fun K hK => ?_
    simp only [go_sem, ↓reduceIte, reduceCtorEq, Nat.reduceBEq, Nat.reduceAdd, Nat.reduceMul, Nat.reduceSub, Nat.reduceLT, Nat.reduceLeDiff, Nat.reduceEqDiff]
    (refine hK _ _ ?_; (try clear hK); (try clear K))
    refine PW.cond_split (b := decide ((v.t.length : Int) > 40)) rfl ?_ ?_ <;> intro h2
    · have h2' : (v.t.length : Int) > 40 := by simpa using h2
      (repeat (refine PW.go tab_ok [] fun K hK => ?_; simp only [go_sem, ↓reduceIte, reduceCtorEq, Nat.reduceBEq, Nat.reduceAdd, Nat.reduceMul, Nat.reduceSub, Nat.reduceLT, Nat.reduceLeDiff, Nat.reduceEqDiff]; (refine hK _ _ ?_; clear hK K)))
      exact PW.ret (Pure.ret rfl (by simp only [rightV, if_neg hg, if_pos h2']; rfl) rfl)
    have h2' : ¬ (v.t.length : Int) > 40 := by simpa using h2
    refine PW.skip (hK0 _ _ ?_)
    (repeat (refine PW.go tab_ok [] fun K hK => ?_; simp only [go_sem, ↓reduceIte, reduceCtorEq, Nat.reduceBEq, Nat.reduceAdd, Nat.reduceMul, Nat.reduceSub, Nat.reduceLT, Nat.reduceLeDiff, Nat.reduceEqDiff]; (refine hK _ _ ?_; clear hK K)))
    exact PW.ret (Pure.ret rfl (by simp only [rightV, if_neg hg, if_neg h2']; rfl) rfl)
  refine PW.go tab_ok [] fun K hK => ?_
  simp only [go_sem, ↓reduceIte, reduceCtorEq, Nat.reduceBEq, Nat.reduceAdd, Nat.reduceMul, Nat.reduceSub, Nat.reduceLT, Nat.reduceLeDiff, Nat.reduceEqDiff]
  (refine hK _ _ ?_; (try clear hK); (try clear K))
  refine PW.cond_split (b := decide (v.k < 0)) rfl ?_ ?_ <;> intro h1
  · refine PW.skip ?_
    exact hgo true (by simp [Sub, eget, h1]) rfl (by simpa using .inl (of_decide_eq_true h1))
  refine PW.go tab_ok [] fun K hK => ?_
  simp only [go_sem, ↓reduceIte, reduceCtorEq, Nat.reduceBEq, Nat.reduceAdd, Nat.reduceMul, Nat.reduceSub, Nat.reduceLT, Nat.reduceLeDiff, Nat.reduceEqDiff]
  (refine hK _ _ ?_; (try clear hK); (try clear K))
  refine PW.cond_split (b := decide (v.k > 2)) rfl ?_ ?_ <;> intro h2
  · refine PW.skip ?_
    exact hgo true (by simp [Sub, eget, h2]) rfl (by simpa using .inr (.inl (of_decide_eq_true h2)))
  refine PW.draw tab_ok mixed [] [(0, []), (1, []), (2, [0]), (3, []), (4, [])] (by kernel_rfl) fun K hK => ?_
  simp only [go_sem, ↓reduceIte, reduceCtorEq, Nat.reduceBEq, Nat.reduceAdd, Nat.reduceMul, Nat.reduceSub, Nat.reduceLT, Nat.reduceLeDiff, Nat.reduceEqDiff]
  refine hb.use (Weaks.refl _) rfl rfl ?_
  refine ⟨?_, GO.go tab_ok ?_⟩
  · simp only [go_sem, ↓reduceIte, reduceCtorEq, Nat.reduceBEq, Nat.reduceAdd, Nat.reduceMul, Nat.reduceSub, Nat.reduceLT, Nat.reduceLeDiff, Nat.reduceEqDiff]
  simp only [eqCells, go_sem, ↓reduceIte, reduceCtorEq, Nat.reduceBEq, Nat.reduceAdd, Nat.reduceMul, Nat.reduceSub, Nat.reduceLT, Nat.reduceLeDiff, Nat.reduceEqDiff]
  (refine hK _ _ ?_; (try clear hK); (try clear K))
  refine hgo (vlNe v (bareM v)) (by simp [Sub, eget, vlNe]) rfl ?_
  have g1 : ¬ v.k < 0 := of_decide_eq_false h1
  have g2 : ¬ v.k > 2 := of_decide_eq_false h2
  constructor
  · intro h; exact .inr (.inr h)
  · rintro (h | h | h)
    · exact absurd h g1
    · exact absurd h g2
    · exact h
end Go.Proofs.YtolhbjfaahcekaaDoor
end
section
/- Plain: tokens that are written with one blank between are read as they were. -/
set_option linter.unusedVariables false
set_option linter.unusedSimpArgs false
namespace Go.Proofs.YtolhbjfaahcekaaDoor

def tokS (t : Tok) : Str := if t.kind = 3 then Lib.itoa t.num else if t.kind = 4 then quoteT t.text else t.text
/-- A token that may be written. -/
inductive WfT : Tok → Prop
  | name (s : Str) (a : Int) (h : nameB s = true) : WfT ⟨1, s, 0, a⟩
  | word (s : Str) (a : Int) (h : s ∈ wordsL) : WfT ⟨2, s, 0, a⟩
  | num (n a : Int) (h0 : 0 ≤ n) (h : n ≤ 9223372036854775807) : WfT ⟨3, [], n, a⟩
  | text (s : Str) (a : Int) (h : s.length ≤ 40) : WfT ⟨4, s, 0, a⟩
  | sign (s : Str) (a : Int) (h : s ∈ signsL) : WfT ⟨5, s, 0, a⟩

/-! ### Texts -/
theorem quoteF_esc : ∀ (t u out : Str) (m a : Nat), 39 ∉ u → (out ++ u ++ t).length ≤ 40 → t.length < m → quoteF m (u ++ escT t ++ [39]) out a = ⟨⟨4, out ++ u ++ t, 0, 0⟩, a + u.length + (escT t).length + 1, 0⟩
  | [], u, out, 0, a, _, _, h => by simp at h
  | [], u, out, m + 1, a, hu, hl, _ => by
    have hi : Lib.indexByte (u ++ escT [] ++ [39]) 39 = u.length := by
      have := indexByte_at 39 u [] hu
      simpa [escT] using this
    unfold quoteF
    rw [hi, if_neg (by omega)]
    simp only [Int.toNat_natCast]
    have h1 : (u ++ escT [] ++ [39]).drop (u.length + 1) = [] := by simp [escT]
    have h2 : (u ++ escT [] ++ [39]).take u.length = u := by simp [escT]
    rw [h1, h2]
    simp only [List.append_nil] at hl
    rw [if_neg (by decide), if_neg (by omega)]
    simp [escT]
  | c :: t, u, out, m, a, hu, hl, hm => by
    by_cases hc : c = 39
    · subst hc
      obtain ⟨m, rfl⟩ : ∃ k, m = k + 1 := ⟨m - 1, by simp at hm; omega⟩
      have he : escT (39 :: t) = 39 :: 39 :: escT t := by simp [escT]
      have hi : Lib.indexByte (u ++ escT (39 :: t) ++ [39]) 39 = u.length := by
        rw [he]
        have := indexByte_at 39 u (39 :: (escT t ++ [39])) hu
        simpa using this
      unfold quoteF
      rw [hi, if_neg (by omega)]
      simp only [Int.toNat_natCast]
      have h1 : (u ++ escT (39 :: t) ++ [39]).drop (u.length + 1) = 39 :: (escT t ++ [39]) := by rw [he]; simp
      have h2 : (u ++ escT (39 :: t) ++ [39]).take u.length = u := by rw [he]; simp
      have h3 : (u ++ escT (39 :: t) ++ [39]).drop (u.length + 2) = escT t ++ [39] := by
        have : (u ++ escT (39 :: t) ++ [39]).drop (u.length + 2) = ((u ++ escT (39 :: t) ++ [39]).drop (u.length + 1)).drop 1 := by rw [List.drop_drop]
        rw [this, h1]
        rfl
      have hp : prefB (39 :: (escT t ++ [39])) [39] = true := by rw [prefB_iff]; simp
      rw [h1, h2, h3, hp, if_pos rfl]
      have ih := quoteF_esc t [] (out ++ u ++ [39]) m (a + u.length + 2) (by simp) (by simp at hl ⊢; omega) (by simp at hm; omega)
      simp only [List.nil_append] at ih
      rw [ih, he]
      congr 1
      · simp
      · simp; omega
    · have he : escT (c :: t) = c :: escT t := by simp [escT, hc]
      have ih := quoteF_esc t (u ++ [c]) out m a (by simp [hu]; exact fun e => hc e.symm) (by simpa using hl) (by simp at hm; omega)
      have e1 : u ++ escT (c :: t) ++ [39] = u ++ [c] ++ escT t ++ [39] := by rw [he]; simp
      rw [e1, ih, he]
      congr 1
      · simp
      · simp; omega
theorem esc_ge (t : Str) : t.length ≤ (escT t).length := by
  induction t with
  | nil => simp
  | cons c t ih =>
    have he : escT (c :: t) = (if c = 39 then [39, 39] else [c]) ++ escT t := rfl
    rw [he, List.length_append, List.length_cons]
    split <;> simp only [List.length_cons, List.length_nil] <;> omega
theorem token_text {t : Str} (h : t.length ≤ 40) : tokenM (quoteT t) = ⟨⟨4, t, 0, 0⟩, (quoteT t).length, 0⟩ := by
  show quotedM (quoteT t) = _
  unfold quotedM
  have h1 : (quoteT t).drop 1 = [] ++ escT t ++ [39] := rfl
  have hesc := esc_ge t
  rw [h1, quoteF_esc t [] [] (quoteT t).length 1 (by simp) (by simpa using h) (by simp [quoteT]; omega)]
  simp [quoteT]
  omega
/-! ### Numbers -/
theorem numF_append : ∀ (xs ys : Str) (n : Int), (numF n xs).2 = 0 → numF n (xs ++ ys) = numF (numF n xs).1 ys
  | [], ys, n, _ => rfl
  | c :: xs, ys, n, h => by
    simp only [numF, List.cons_append] at h ⊢
    split
    · rename_i hb
      rw [if_pos hb] at h
      exact absurd h (by decide)
    · rename_i hb
      rw [if_neg hb] at h
      exact numF_append xs ys _ h
theorem digit_facts {r : Nat} (h : r < 10) : dgI (UInt8.ofNat (48 + r)) = r ∧ digitB (UInt8.ofNat (48 + r)) = true ∧ firstB (UInt8.ofNat (48 + r)) = false ∧ greatB (UInt8.ofNat (48 + r)) = false ∧ blankB (UInt8.ofNat (48 + r)) = false ∧ UInt8.ofNat (48 + r) ≠ 39 ∧ UInt8.ofNat (48 + r) ≠ 45 := by
  rcases r with _ | _ | _ | _ | _ | _ | _ | _ | _ | _ | r
  all_goals first | decide | omega
theorem i64_id {n : Int} (h0 : 0 ≤ n) (h : n ≤ 9223372036854775807) : IntKind.i64.wrap n = n := by
  simp only [IntKind.wrap, IntKind.bits, IntKind.signed]
  simp
  omega
theorem numF_dec : ∀ (k u : Nat), u < k → (u : Int) ≤ 9223372036854775807 → numF 0 (Lib.decDigits u) = ((u : Int), 0)
  | 0, u, h, _ => by omega
  | k + 1, u, h, hm => by
    unfold Lib.decDigits
    split
    · rename_i h10
      obtain ⟨h1, _⟩ := digit_facts h10
      simp only [numF]
      have hb : numBad 0 (UInt8.ofNat (48 + u)) = false := by simp [numBad]
      rw [hb]
      simp only [numStep, h1, Bool.false_eq_true, if_false]
      rw [Int.mul_zero, show IntKind.i64.wrap 0 = 0 from rfl, Int.zero_add, i64_id (by omega) hm]
    · rename_i h10
      obtain ⟨h1, _⟩ := digit_facts (r := u % 10) (by omega)
      have ih := numF_dec k (u / 10) (by omega) (by omega)
      rw [numF_append _ _ _ (by rw [ih]), ih]
      simp only [numF]
      have hb : numBad ((u / 10 : Nat) : Int) (UInt8.ofNat (48 + u % 10)) = false := by
        simp only [numBad, h1, Bool.or_eq_false_iff, Bool.and_eq_false_iff, decide_eq_false_iff_not]
        refine ⟨by omega, ?_⟩
        by_cases he : ((u / 10 : Nat) : Int) = 922337203685477580
        · right; omega
        · left; exact beq_eq_false_iff_ne.2 he
      rw [hb]
      simp only [numStep, h1, Bool.false_eq_true, if_false]
      rw [i64_id (n := 10 * ((u / 10 : Nat) : Int)) (by omega) (by omega), i64_id (by omega) (by omega)]
      congr 1
      omega
theorem dec_digits : ∀ (k u : Nat), u < k → (∀ c ∈ Lib.decDigits u, digitB c = true) ∧ ∃ r x, r < 10 ∧ Lib.decDigits u = UInt8.ofNat (48 + r) :: x
  | 0, u, h => by omega
  | k + 1, u, h => by
    unfold Lib.decDigits
    split
    · rename_i h10
      obtain ⟨_, h2, _⟩ := digit_facts h10
      exact ⟨by intro c hc; rw [List.mem_singleton.1 hc]; exact h2, u, [], h10, rfl⟩
    · rename_i h10
      obtain ⟨_, h2, _⟩ := digit_facts (r := u % 10) (by omega)
      obtain ⟨ih1, r, x, hr, ih2⟩ := dec_digits k (u / 10) (by omega)
      refine ⟨?_, r, x ++ [UInt8.ofNat (48 + u % 10)], hr, by rw [ih2]; rfl⟩
      intro c hc
      rcases List.mem_append.1 hc with hc | hc
      · exact ih1 c hc
      · rw [List.mem_singleton.1 hc]; exact h2
theorem rowN_all {p : UInt8 → Bool} : ∀ {s : Str}, (∀ c ∈ s, p c = true) → rowN p s = s.length
  | [], _ => rfl
  | c :: s, h => by
    have ih := rowN_all (p := p) (s := s) fun d hd => h d (by simp [hd])
    simp only [rowN, List.takeWhile_cons, h c (by simp), if_true, List.length_cons] at ih ⊢
    omega
theorem glued_end (s : Str) : glued s s.length = false := by
  unfold glued
  rw [List.getElem?_eq_none (Nat.le_refl _)]
theorem token_num {n : Int} (h0 : 0 ≤ n) (h : n ≤ 9223372036854775807) : tokenM (Lib.itoa n) = ⟨⟨3, [], n, 0⟩, (Lib.itoa n).length, 0⟩ := by
  have hi : Lib.itoa n = Lib.decDigits n.toNat := by unfold Lib.itoa; rw [if_neg (by omega)]
  rw [hi]
  obtain ⟨h1, r, x, hr, h2⟩ := dec_digits (n.toNat + 1) n.toNat (by omega)
  obtain ⟨_, f2, f3, f4, _, f6, _⟩ := digit_facts hr
  have hnum := numF_dec (n.toNat + 1) n.toNat (by omega) (by omega)
  have hrow := rowN_all h1
  rw [h2] at hnum hrow h1 ⊢
  generalize UInt8.ofNat (48 + r) = c at f2 f3 f4 f6 hnum hrow h1 ⊢
  have h39 : ((c.toNat : Int) == 39) = false := by
    refine beq_eq_false_iff_ne.2 fun e => f6 ?_
    have : c.toNat = 39 := by omega
    exact UInt8.toNat_inj.1 (by rw [this]; rfl)
  simp only [tokenM, h39, f3, f4, f2, Bool.false_eq_true, if_false, if_true, plain3, hrow, plainM, glued_end, List.take_length, hnum]
  rw [Int.toNat_of_nonneg h0]
/-! ### Names, words, signs -/
theorem small_of_first {c : UInt8} (h : firstB c = true) : greatB c = false ∧ digitB c = false ∧ blankB c = false ∧ ((c.toNat : Int) == 39) = false ∧ c ≠ 45 := by
  simp only [firstB, greatB, digitB, blankB, Bool.or_eq_true, Bool.and_eq_true, decide_eq_true_eq, beq_iff_eq] at h
  refine ⟨?_, ?_, ?_, ?_, ?_⟩
  · simp only [greatB, Bool.and_eq_false_iff, decide_eq_false_iff_not]; omega
  · simp only [digitB, Bool.and_eq_false_iff, decide_eq_false_iff_not]; omega
  · simp only [blankB, Bool.or_eq_false_iff, beq_eq_false_iff_ne]; omega
  · rw [beq_eq_false_iff_ne]; omega
  · rintro rfl
    revert h
    decide
theorem token_name {s : Str} (h : nameB s = true) : tokenM s = ⟨⟨1, s, 0, 0⟩, s.length, 0⟩ := by
  cases s with
  | nil => cases h
  | cons c r =>
    simp only [nameB, Bool.and_eq_true, decide_eq_true_eq, beq_iff_eq] at h
    obtain ⟨⟨h1, h2⟩, h3⟩ := h
    obtain ⟨g1, g2, g3, g4, _⟩ := small_of_first h2
    have h16 : ¬ (((c :: r).length : Nat) : Int) > 16 := by omega
    simp only [tokenM, g4, h2, Bool.false_eq_true, if_false, if_true, plain3, h3, plainM, glued_end, List.take_length, g1, if_neg h16]
set_option maxRecDepth 100000 in
theorem token_word {s : Str} (h : s ∈ wordsL) : tokenM s = ⟨⟨2, s, 0, 0⟩, s.length, 0⟩ ∧ ∃ c r, s = c :: r ∧ greatB c = true := by
  simp only [wordsL, List.mem_cons, List.not_mem_nil, or_false] at h
  rcases h with rfl | rfl | rfl | rfl | rfl | rfl | rfl | rfl | rfl | rfl | rfl | rfl | rfl | rfl | rfl | rfl | rfl | rfl | rfl | rfl | rfl | rfl | rfl | rfl | rfl | rfl | rfl | rfl | rfl | rfl | rfl | rfl | rfl <;> exact ⟨rfl, _, _, rfl, rfl⟩
theorem token_sign {s : Str} (h : s ∈ signsL) : tokenM s = ⟨⟨5, s, 0, 0⟩, s.length, 0⟩ ∧ ∃ c r, s = c :: r ∧ blankB c = false ∧ (c = 45 → r = []) := by
  simp only [signsL, List.mem_cons, List.not_mem_nil, or_false] at h
  rcases h with rfl | rfl | rfl | rfl | rfl | rfl | rfl | rfl | rfl | rfl | rfl | rfl | rfl | rfl | rfl | rfl <;> exact ⟨rfl, _, _, rfl, rfl, by decide⟩
theorem token_tok {t : Tok} (h : WfT t) : tokenM (tokS t) = ⟨{ t with at_ := 0 }, (tokS t).length, 0⟩ ∧ ∃ c r, tokS t = c :: r ∧ blankB c = false ∧ (c = 45 → r = []) := by
  cases h with
  | name s a h =>
    refine ⟨token_name h, ?_⟩
    cases s with
    | nil => cases h
    | cons c r =>
      simp only [nameB, Bool.and_eq_true] at h
      obtain ⟨_, _, g3, _, g5⟩ := small_of_first h.1.2
      exact ⟨c, r, rfl, g3, fun e => absurd e g5⟩
  | word s a h =>
    obtain ⟨h1, c, r, rfl, h2⟩ := token_word h
    refine ⟨h1, c, r, rfl, ?_, ?_⟩
    · simp only [greatB, blankB, Bool.and_eq_true, decide_eq_true_eq, Bool.or_eq_false_iff, beq_eq_false_iff_ne] at h2 ⊢
      omega
    · intro e
      subst e
      exact absurd h2 (by decide)
  | num n a h0 h =>
    refine ⟨token_num h0 h, ?_⟩
    have hi : tokS ⟨3, [], n, a⟩ = Lib.decDigits n.toNat := by show Lib.itoa n = _; unfold Lib.itoa; rw [if_neg (by omega)]
    obtain ⟨_, r, x, hr, h2⟩ := dec_digits (n.toNat + 1) n.toNat (by omega)
    obtain ⟨_, _, _, _, f5, _, f7⟩ := digit_facts hr
    exact ⟨_, _, hi.trans h2, f5, fun e => absurd e f7⟩
  | text s a h => exact ⟨token_text h, 39, _, rfl, by decide, fun e => absurd e (by decide)⟩
  | sign s a h => exact token_sign h
/-! ### Rows of them -/
def wrM : List Tok → Str
  | [] => []
  | [t] => tokS t
  | t :: u :: l => tokS t ++ 32 :: wrM (u :: l)
theorem blank_tok {t : Tok} (h : WfT t) (r : Str) : blankN (tokS t ++ 32 :: r) = 0 ∧ blankN (tokS t) = 0 := by
  obtain ⟨_, c, x, hx, hb, h45⟩ := token_tok h
  rw [hx]
  have key : ∀ y : Str, (c = 45 → prefB (c :: y) sDash = false) → blankN (c :: y) = 0 := fun y hy => by
    rw [blankN_cons, if_neg (by simp [hb]), if_neg]
    intro hd
    simp only [Bool.and_eq_true, beq_iff_eq] at hd
    have hc : c = 45 := UInt8.toNat_inj.1 (by have := hd.1; show c.toNat = 45; omega)
    rw [hy hc] at hd
    exact absurd hd.2 (by simp)
  refine ⟨key _ fun e => ?_, key _ fun e => ?_⟩
  · rw [h45 e, e]
    show prefB (45 :: 32 :: r) sDash = false
    rw [← Bool.not_eq_true, prefB_iff]
    simp [sDash]
  · rw [h45 e, e]; rfl
theorem blank_wr {t : Tok} (h : WfT t) (l : List Tok) : blankN (wrM (t :: l)) = 0 := by
  cases l with
  | nil => exact (blank_tok h []).2
  | cons u l => exact (blank_tok h _).1
/-- Tokens that say the same, one by one. -/
inductive Eqvs : List Tok → List Tok → Prop
  | nil : Eqvs [] []
  | cons (t u : Tok) (l m : List Tok) (h : u.kind = t.kind ∧ u.text = t.text ∧ u.num = t.num) (hs : Eqvs l m) : Eqvs (t :: l) (u :: m)
theorem lexF_blank (k : Nat) (w : Str) (b : Nat) (acc : List Tok) : lexF (k + 1) (32 :: w) b acc = lexF (k + 1) w (b + 1) acc := by
  have hb : blankN (32 :: w) = 1 + blankN w := by rw [blankN_cons, if_pos (by decide)]
  have hd : ∀ j, (32 :: w).drop (1 + j) = w.drop j := fun j => by rw [Nat.add_comm]; rfl
  unfold lexF
  rw [hb, hd, show b + (1 + blankN w) = b + 1 + blankN w from by omega, show ∀ j, 1 + blankN w + j = 1 + (blankN w + j) from fun j => by omega, hd]
theorem wr_ne {t : Tok} (h : WfT t) (l : List Tok) : wrM (t :: l) ≠ [] := by
  obtain ⟨_, c, x, hx, _⟩ := token_tok h
  cases l with
  | nil => simp only [wrM, hx]; simp
  | cons u l => simp only [wrM, hx]; simp
theorem relex : ∀ (l : List Tok) (n a : Nat) (acc : List Tok), (∀ t ∈ l, WfT t) → (wrM l).length < n → ∃ l', lexF n (wrM l) a acc = (acc ++ l' ++ [endT (a + (wrM l).length)], ⟨0, 0⟩) ∧ Eqvs l l'
  | [], 0, a, acc, _, h => by simp at h
  | [], n + 1, a, acc, _, h => ⟨[], by
      unfold lexF
      rw [if_pos (by rfl)]
      simp [wrM, endT]
      rfl, .nil⟩
  | t :: l, 0, a, acc, _, h => by simp at h
  | [t], n + 1, a, acc, hw, h => by
    have ht := hw t (by simp)
    obtain ⟨h1, c, x, hx, _⟩ := token_tok ht
    have hlen : (tokS t).length < n + 1 := h
    have hpos : 1 ≤ (tokS t).length := by rw [hx]; simp
    obtain ⟨l', e1, e2⟩ := relex [] n (a + (tokS t).length) (acc ++ [{ t with at_ := ((a + 0 : Nat) : Int) }]) (by simp) (by simp [wrM]; omega)
    cases e2
    refine ⟨[{ t with at_ := ((a + 0 : Nat) : Int) }], ?_, .cons _ _ _ _ ⟨rfl, rfl, rfl⟩ .nil⟩
    unfold lexF
    show (if (tokS t).drop (blankN (tokS t)) = [] then _ else _) = _
    rw [show blankN (wrM [t]) = 0 from (blank_tok ht []).2, (blank_tok ht []).2, List.drop_zero, if_neg (by rw [hx]; simp)]
    show (if (tokenM (tokS t)).e ≠ 0 then _ else lexF n ((tokS t).drop (0 + (tokenM (tokS t)).n)) (a + 0 + (tokenM (tokS t)).n) (acc ++ [{ (tokenM (tokS t)).t with at_ := ((a + 0 : Nat) : Int) }])) = _
    rw [h1, if_neg (by simp)]
    have hd : (tokS t).drop (0 + (tokS t).length) = wrM [] := by simp [wrM]
    rw [hd]
    have : (⟨t.kind, t.text, t.num, ((a + 0 : Nat) : Int)⟩ : Tok) = { t with at_ := ((a + 0 : Nat) : Int) } := rfl
    simp only [Nat.add_zero] at e1 ⊢
    rw [e1]
    simp [wrM]
  | t :: u :: l, n + 1, a, acc, hw, h => by
    have ht := hw t (by simp)
    obtain ⟨h1, c, x, hx, _⟩ := token_tok ht
    have hlen : (tokS t).length + ((wrM (u :: l)).length + 1) < n + 1 := by simpa [wrM] using h
    have hpos : 1 ≤ (tokS t).length := by rw [hx]; simp
    obtain ⟨l', e1, e2⟩ := relex (u :: l) n (a + (tokS t).length + 1) (acc ++ [{ t with at_ := ((a + 0 : Nat) : Int) }]) (fun y hy => hw y (by simp [hy])) (by omega)
    refine ⟨{ t with at_ := ((a + 0 : Nat) : Int) } :: l', ?_, .cons _ _ _ _ ⟨rfl, rfl, rfl⟩ e2⟩
    have htk : tokenM (tokS t ++ 32 :: wrM (u :: l)) = ⟨{ t with at_ := 0 }, (tokS t).length, 0⟩ := by
      rw [tokenM_ext (.inr rfl) _ (by rw [hx]; simp) (by rw [h1]), h1]
    unfold lexF
    show (if (tokS t ++ 32 :: wrM (u :: l)).drop (blankN (tokS t ++ 32 :: wrM (u :: l))) = [] then _ else _) = _
    rw [show blankN (wrM (t :: u :: l)) = 0 from (blank_tok ht _).1, (blank_tok ht _).1, List.drop_zero, if_neg (by rw [hx]; simp)]
    show (if (tokenM (tokS t ++ 32 :: wrM (u :: l))).e ≠ 0 then _ else lexF n ((tokS t ++ 32 :: wrM (u :: l)).drop (0 + (tokenM (tokS t ++ 32 :: wrM (u :: l))).n)) (a + 0 + (tokenM (tokS t ++ 32 :: wrM (u :: l))).n) (acc ++ [{ (tokenM (tokS t ++ 32 :: wrM (u :: l))).t with at_ := ((a + 0 : Nat) : Int) }])) = _
    rw [htk, if_neg (by simp)]
    have hd : (tokS t ++ 32 :: wrM (u :: l)).drop (0 + (tokS t).length) = 32 :: wrM (u :: l) := by simp
    simp only [Nat.add_zero] at e1 ⊢
    rw [hd]
    obtain ⟨k, rfl⟩ : ∃ k, n = k + 1 := ⟨n - 1, by omega⟩
    rw [lexF_blank, e1]
    have hl : (wrM (t :: u :: l)).length = (tokS t).length + ((wrM (u :: l)).length + 1) := by simp [wrM]
    rw [hl, show a + (tokS t).length + 1 + (wrM (u :: l)).length = a + ((tokS t).length + ((wrM (u :: l)).length + 1)) from by omega]
    simp only [List.append_assoc, List.cons_append, List.nil_append]
/-! ### What was read may be written -/
theorem idxF_mem : ∀ {ls : List Str} {x : Str}, 0 ≤ idxF ls x → x ∈ ls
  | [], x, h => by simp [idxF] at h
  | l :: ls, x, h => by
    unfold idxF at h
    split at h
    · rename_i e; simp [e]
    · split at h
      · omega
      · exact List.mem_cons_of_mem _ (idxF_mem (by omega))
theorem mem_while {p : UInt8 → Bool} : ∀ {s : Str} {c : UInt8}, c ∈ s.takeWhile p → p c = true
  | [], c, h => by simp at h
  | x :: s, c, h => by
    rw [List.takeWhile_cons] at h
    split at h
    · rename_i hx
      rcases List.mem_cons.1 h with rfl | h
      · exact hx
      · exact mem_while h
    · simp at h
theorem take_row (p : UInt8 → Bool) : ∀ s : Str, s.take (rowN p s) = s.takeWhile p
  | [] => rfl
  | c :: s => by
    have ih := take_row p s
    simp only [rowN, List.takeWhile_cons] at ih ⊢
    cases p c
    · rfl
    · simp [ih]
theorem digit_bound {c : UInt8} (h : digitB c = true) : 0 ≤ dgI c ∧ dgI c ≤ 9 := by
  simp only [digitB, Bool.and_eq_true, decide_eq_true_eq] at h
  have h1 : IntKind.u8.wrap ((c.toNat : Int) - 48) = (c.toNat : Int) - 48 := by
    simp only [IntKind.wrap, IntKind.bits, IntKind.signed]
    simp
    omega
  simp only [dgI, h1]
  rw [i64_id (by omega) (by omega)]
  omega
theorem numF_bound : ∀ (xs : Str) (n : Int), (∀ c ∈ xs, digitB c = true) → 0 ≤ n → n ≤ 9223372036854775807 → (numF n xs).2 = 0 → 0 ≤ (numF n xs).1 ∧ (numF n xs).1 ≤ 9223372036854775807
  | [], n, _, h0, h1, _ => ⟨h0, h1⟩
  | c :: xs, n, hd, h0, h1, h => by
    obtain ⟨d0, d9⟩ := digit_bound (hd c (by simp))
    simp only [numF] at h ⊢
    split at h
    · exact absurd h (by decide)
    · rename_i hb
      rw [if_neg hb]
      have hb' : ¬ n > 922337203685477580 ∧ (n = 922337203685477580 → ¬ dgI c > 7) := by
        simp only [numBad, Bool.or_eq_true, Bool.and_eq_true, decide_eq_true_eq, beq_iff_eq] at hb
        exact ⟨fun e => hb (.inl e), fun e e2 => hb (.inr ⟨e, e2⟩)⟩
      have hs : numStep n c = 10 * n + dgI c := by
        unfold numStep
        rw [i64_id (n := 10 * n) (by omega) (by omega), i64_id (by omega) (by omega)]
      exact numF_bound xs _ (fun y hy => hd y (by simp [hy])) (by rw [hs]; omega) (by rw [hs]; omega) h
theorem quoteF_wf : ∀ (m : Nat) (rest out : Str) (a : Nat), (quoteF m rest out a).e = 0 → ∃ x : Str, (quoteF m rest out a).t = ⟨4, x, 0, 0⟩ ∧ x.length ≤ 40
  | 0, rest, out, a, h => by simp [quoteF] at h
  | m + 1, rest, out, a, h => by
    unfold quoteF at h ⊢
    split at h
    · simp at h
    · rename_i h1
      rw [if_neg h1]
      simp only at h ⊢
      split
      · rename_i h2
        rw [if_pos h2] at h
        exact quoteF_wf m _ _ _ h
      · rename_i h2
        rw [if_neg h2] at h
        split
        · rename_i h3
          rw [if_pos h3] at h
          simp at h
        · rename_i h3
          exact ⟨_, rfl, by omega⟩
theorem signF_wf : ∀ (l : List Str) (s : Str), (signF l s).e = 0 → ∃ x ∈ l, (signF l s).t = ⟨5, x, 0, 0⟩
  | [], s, h => by simp [signF] at h
  | x :: l, s, h => by
    unfold signF at h ⊢
    split
    · exact ⟨x, by simp, rfl⟩
    · rename_i hp
      rw [if_neg hp] at h
      obtain ⟨y, hy, e⟩ := signF_wf l s h
      exact ⟨y, by simp [hy], e⟩
theorem tokenM_wf {s : Str} (h : (tokenM s).e = 0) (a : Int) : WfT { (tokenM s).t with at_ := a } := by
  cases s with
  | nil => simp [tokenM] at h
  | cons c r =>
    simp only [tokenM] at h ⊢
    split
    · rename_i h1
      rw [if_pos h1] at h
      obtain ⟨x, e, hx⟩ := quoteF_wf _ _ _ _ h
      show WfT { (quotedM (c :: r)).t with at_ := a }
      have : (quotedM (c :: r)).t = ⟨4, x, 0, 0⟩ := e
      rw [this]
      exact .text x a hx
    · rename_i h1
      rw [if_neg h1] at h
      split
      · rename_i h2
        rw [if_pos h2] at h
        obtain ⟨g1, _⟩ := small_of_first h2
        simp only [plain3, plainM] at h ⊢
        split at h
        · simp at h
        · rename_i h3
          simp only [g1, Bool.false_eq_true, if_false, h2, if_true] at h
          rw [if_neg h3]
          simp only [g1, Bool.false_eq_true, if_false, h2, if_true]
          rw [take_row]
          have h16 : ¬ (rowN smallB (c :: r) : Int) > 16 := by
            intro e
            rw [if_pos e] at h
            exact absurd h (by decide)
          refine .name _ a ?_
          have hall : ∀ d ∈ (c :: r).takeWhile smallB, smallB d = true := fun d hd => mem_while hd
          have hrow := rowN_all hall
          have hl : ((c :: r).takeWhile smallB).length ≤ 16 := by
            have : ((c :: r).takeWhile smallB).length = rowN smallB (c :: r) := rfl
            omega
          have hsm : smallB c = true := by simp [smallB, h2]
          rw [List.takeWhile_cons, hsm, if_pos rfl] at hrow hl ⊢
          simp only [nameB, h2, hrow, Bool.and_true, Bool.and_eq_true, decide_eq_true_eq, beq_self_eq_true]
          exact hl
      · rename_i h2
        rw [if_neg h2] at h
        split
        · rename_i h3
          rw [if_pos h3] at h
          simp only [plain3, plainM] at h ⊢
          split at h
          · simp at h
          · rename_i h4
            simp only [h3, if_true] at h
            rw [if_neg h4]
            simp only [h3, if_true]
            refine .word _ a (idxF_mem ?_)
            by_cases hi : 0 ≤ idxF wordsL ((c :: r).take (rowN greatB (c :: r)))
            · exact hi
            · rw [if_neg hi] at h
              exact absurd h (by decide)
        · rename_i h3
          rw [if_neg h3] at h
          split
          · rename_i h4
            rw [if_pos h4] at h
            have g2 : firstB c = false := by simpa using h2
            have g3 : greatB c = false := by simpa using h3
            simp only [plain3, plainM] at h ⊢
            split at h
            · simp at h
            · rename_i h5
              simp only [g3, g2, Bool.false_eq_true, if_false] at h
              rw [if_neg h5]
              simp only [g3, g2, Bool.false_eq_true, if_false]
              rw [take_row] at h ⊢
              obtain ⟨b1, b2⟩ := numF_bound _ 0 (fun d hd => mem_while hd) (by omega) (by omega) h
              exact .num _ a b1 b2
          · rename_i h4
            rw [if_neg h4] at h
            obtain ⟨x, hx, e⟩ := signF_wf _ _ h
            rw [e]
            exact .sign x a hx
theorem lexF_wf : ∀ (n : Nat) (rest : Str) (a : Nat) (acc : List Tok), rest.length < n → (lexF n rest a acc).2.c = 0 → (∀ x ∈ acc, WfT x) → ∃ pre, lexF n rest a acc = (pre ++ [endT (a + rest.length)], ⟨0, 0⟩) ∧ ∀ x ∈ pre, WfT x
  | 0, rest, a, acc, h, _, _ => by omega
  | n + 1, rest, a, acc, h, hc, hacc => by
    have hbl := blankN_le rest
    unfold lexF at hc ⊢
    split at hc
    · rename_i h1
      rw [if_pos h1]
      have hk : blankN rest = rest.length := by
        have := congrArg List.length h1
        simp at this
        omega
      exact ⟨acc, by rw [hk]; rfl, hacc⟩
    · rename_i h1
      rw [if_neg h1]
      split at hc
      · rename_i h2; exact absurd hc h2
      · rename_i h2
        rw [if_neg h2]
        have h2' : (tokenM (rest.drop (blankN rest))).e = 0 := by simpa using h2
        have hle := tokenM_le h1 h2'
        simp only [List.length_drop] at hle
        obtain ⟨pre, e1, e2⟩ := lexF_wf n _ _ _ (by simp only [List.length_drop]; omega) hc (by
          intro x hx
          rcases List.mem_append.1 hx with hx | hx
          · exact hacc x hx
          · simp only [List.mem_singleton] at hx
            subst hx
            exact tokenM_wf h2' _)
        refine ⟨pre, ?_, e2⟩
        rw [e1]
        congr 4
        simp only [List.length_drop]
        omega
end Go.Proofs.YtolhbjfaahcekaaDoor
end
section
/- Plain: what is written of tokens; it is read as these tokens. -/
set_option linter.unusedVariables false
set_option linter.unusedSimpArgs false
namespace Go.Proofs.YtolhbjfaahcekaaDoor
open Go Go.Proofs

/-- A token that may be written at all. -/
structure TokOk (t : Tok) : Prop where
  n0 : -9223372036854775808 ≤ t.num
  n1 : t.num ≤ 9223372036854775807
  text : t.text.length ≤ 100000
def partsM : List Tok → List Str
  | [] => []
  | t :: l => if t.kind = 6 then partsM l else tokS t :: partsM l
def writeM (l : List Tok) : Str := Lib.join (partsM l) [32]
theorem parts_app (l m : List Tok) : partsM (l ++ m) = partsM l ++ partsM m := by
  induction l with
  | nil => rfl
  | cons t l ih => simp only [List.cons_append, partsM, ih]; split <;> rfl
theorem parts_len (l : List Tok) : (partsM l).length ≤ l.length := by
  induction l with
  | nil => exact Nat.le_refl _
  | cons t l ih => simp only [partsM]; split <;> simp <;> omega
theorem tokS_len {t : Tok} (h : TokOk t) : (tokS t).length ≤ 200002 := by
  have h1 := h.text
  have h2 := Lib.itoa_length_le t.num h.n0 h.n1
  have h3 := esc_len t.text
  unfold tokS
  split
  · omega
  · split
    · simp only [quoteT, List.length_cons, List.length_append, List.length_nil]; omega
    · omega
theorem parts_lens {l : List Tok} (h : ∀ t ∈ l, TokOk t) : Lib.lens (partsM l) ≤ 200002 * (partsM l).length := by
  induction l with
  | nil => simp [partsM, Lib.lens]
  | cons t l ih =>
    have ih := ih fun x hx => h x (by simp [hx])
    have := tokS_len (h t (by simp))
    simp only [partsM]
    split
    · exact ih
    · simp only [Lib.lens, List.map_cons, List.sum_cons, List.length_cons] at ih ⊢
      omega
theorem write_len {l : List Tok} (h : ∀ t ∈ l, TokOk t) : (writeM l).length ≤ 200003 * l.length := by
  have h1 := parts_lens h
  have h2 := parts_len l
  unfold writeM
  generalize partsM l = p at h1 h2
  cases p with
  | nil => simp [Lib.join_nil]
  | cons x r =>
    rw [Lib.join_length]
    simp only [List.length_cons, List.length_nil] at h1 h2 ⊢
    omega
theorem wr_join {l : List Tok} (h : ∀ t ∈ l, t.kind ≠ 6) : wrM l = writeM l := by
  unfold writeM
  induction l with
  | nil => rfl
  | cons t l ih =>
    have ih := ih fun x hx => h x (by simp [hx])
    have ht := h t (by simp)
    simp only [partsM, if_neg ht]
    cases l with
    | nil => simp only [partsM, Lib.join_one, wrM]
    | cons u l =>
      have hu := h u (by simp)
      simp only [wrM, ih, partsM, if_neg hu]
      rw [Lib.join_cons, Lib.join_cons]
      simp [Lib.joinTail]
theorem eqvs_z : ∀ {l m : List Tok}, Eqvs l m → m.map Tok.z = l.map Tok.z
  | _, _, .nil => rfl
  | _, _, .cons t u l m h hs => by
    obtain ⟨h1, h2, h3⟩ := h
    have : u.z = t.z := by simp [Tok.z, h1, h2, h3]
    simp [this, eqvs_z hs]
theorem wf_kind {t : Tok} (h : WfT t) : t.kind ≠ 6 := by cases h <;> simp
theorem wf_ok {t : Tok} (h : WfT t) : TokOk t := by
  cases h with
  | name s a h =>
    refine ⟨by simp, by simp, ?_⟩
    cases s with
    | nil => cases h
    | cons c r =>
      simp only [nameB, Bool.and_eq_true, decide_eq_true_eq] at h
      have := h.1.1
      simp only; omega
  | word s a h =>
    refine ⟨by simp, by simp, ?_⟩
    have : ∀ x ∈ wordsL, x.length ≤ 100000 := by decide
    exact this s h
  | num n a h0 h => exact ⟨by simp only; omega, h, by simp⟩
  | text s a h => exact ⟨by simp, by simp, by simp only; omega⟩
  | sign s a h =>
    refine ⟨by simp, by simp, ?_⟩
    have : ∀ x ∈ signsL, x.length ≤ 100000 := by decide
    exact this s h
theorem end_ok (n : Nat) (h : n ≤ 2000) : TokOk (endT n) := ⟨by simp [endT], by simp [endT], by simp [endT]⟩
/-- What is written of a row of tokens is read as these tokens. -/
theorem relexM {l : List Tok} (h : ∀ t ∈ l, WfT t) (hl : (writeM l).length ≤ 2000) : ∃ m, lexM (writeM l) = (m ++ [endT (writeM l).length], ⟨0, 0⟩) ∧ m.map Tok.z = l.map Tok.z := by
  have hw := wr_join (l := l) fun t ht => wf_kind (h t ht)
  obtain ⟨m, e1, e2⟩ := relex l ((writeM l).length + 1) 0 [] h (by rw [hw]; omega)
  rw [hw] at e1
  refine ⟨m, ?_, eqvs_z e2⟩
  unfold lexM
  rw [if_neg (by omega), e1, Nat.zero_add, List.nil_append]
theorem write_end (l : List Tok) (n : Nat) : writeM (l ++ [endT n]) = writeM l := by
  unfold writeM
  rw [parts_app]
  simp [partsM, endT]
end Go.Proofs.YtolhbjfaahcekaaDoor
end
section
/- vestrylaw08: its small case; the run of LexLiterals. -/
set_option linter.unusedVariables false
set_option linter.unusedSimpArgs false
namespace Go.Proofs.YtolhbjfaahcekaaDoor
open Go

set_option maxRecDepth 100000 in
theorem sm_lex : lexM [83, 69, 76, 69, 67, 84, 32, 97, 49, 44, 39, 105, 116, 39, 39, 115, 39, 32, 45, 45, 32, 120] = ([⟨2, [83, 69, 76, 69, 67, 84], 0, 0⟩, ⟨1, [97, 49], 0, 7⟩, ⟨5, [44], 0, 9⟩, ⟨4, [105, 116, 39, 115], 0, 10⟩, ⟨6, [], 0, 22⟩], ⟨0, 0⟩) := by kernel_rfl
set_option maxRecDepth 100000 in
set_option maxHeartbeats 1000000 in
theorem lexSmall_pc : Pure Tryd.prog 4 [] (.bool true) := by
  have h1 := lex_pc [83, 69, 76, 69, 67, 84, 32, 97, 49, 44, 39, 105, 116, 39, 39, 115, 39, 32, 45, 45, 32, 120]
  rw [sm_lex] at h1
  refine PC.intro tab_ok Tryd.func4 rfl (by kernel_rfl) Tryd.ntmps4 (Nat.le_of_ble_eq_true rfl) (rs := _) (congrArg Array.toList Tryd.results4) ?_
  refine PW.go tab_ok [] fun K hK => ?_
  simp only [go_sem, ↓reduceIte, reduceCtorEq, Nat.reduceBEq, Nat.reduceAdd, Nat.reduceMul, Nat.reduceSub, Nat.reduceLT, Nat.reduceLeDiff, Nat.reduceEqDiff]
  (refine hK _ _ ?_; (try clear hK); (try clear K))
  refine PW.go tab_ok [] fun K hK => ?_
  simp only [go_sem, ↓reduceIte, reduceCtorEq, Nat.reduceBEq, Nat.reduceAdd, Nat.reduceMul, Nat.reduceSub, Nat.reduceLT, Nat.reduceLeDiff, Nat.reduceEqDiff]
  refine h1.use (Weaks.refl _) rfl rfl ?_
  refine PO.go tab_ok [] ?_
  simp only [ftPV, toksPV, tokPV, List.map_cons, List.map_nil, go_sem, ↓reduceIte, reduceCtorEq, Nat.reduceBEq, Nat.reduceAdd, Nat.reduceMul, Nat.reduceSub, Nat.reduceLT, Nat.reduceLeDiff, Nat.reduceEqDiff]
  (refine hK _ _ ?_; (try clear hK); (try clear K))
  refine PW.go tab_ok [] fun K hK => ?_
  simp only [eqCells, Int.toNat_zero, Int.toNat_one, go_sem, ↓reduceIte, reduceCtorEq, Nat.reduceBEq, Nat.reduceAdd, Nat.reduceMul, Nat.reduceSub, Nat.reduceLT, Nat.reduceLeDiff, Nat.reduceEqDiff]
  (refine hK _ _ ?_; (try clear hK); (try clear K))
  exact PW.ret (Pure.ret rfl rfl rfl)

/-! ### A literal is one token -/
def litTok (v : Vl) : Tok := if v.k = 0 then ⟨2, nullT, 0, 0⟩ else if v.k = 1 then ⟨3, [], v.n, 0⟩ else ⟨4, v.t, 0, 0⟩
theorem right_cases {v : Vl} (h : rightV v = 0) : v = ⟨0, 0, []⟩ ∨ v = ⟨1, v.n, []⟩ ∨ (v = ⟨2, 0, v.t⟩ ∧ v.t.length ≤ 40) := by
  obtain ⟨k, n, t⟩ := v
  unfold rightV at h
  split at h
  · cases h
  · rename_i h1
    split at h
    · cases h
    · rename_i h2
      simp only [not_or] at h1
      obtain ⟨g1, g2, g3⟩ := h1
      have hk : k = 0 ∨ k = 1 ∨ k = 2 := by omega
      simp only [vlNe, bareM, Bool.not_eq_true, Bool.not_eq_false', Bool.and_eq_true, beq_iff_eq, and_true] at g3
      rcases hk with rfl | rfl | rfl
      · simp at g3; obtain ⟨rfl, rfl⟩ := g3; exact .inl rfl
      · simp at g3; subst g3; exact .inr (.inl rfl)
      · simp at g3; subst g3; exact .inr (.inr ⟨rfl, by simp only at h2 ⊢; omega⟩)
theorem lit_law {v : Vl} (h : rightV v = 0) (hn : v.k = 1 → 0 ≤ v.n) (hm : v.n ≤ 9223372036854775807) :
    ∃ t u : Tok, lexM (litT v) = ([t, u], ⟨0, 0⟩) ∧ (v.k = 0 → t.kind = 2 ∧ t.text = nullT) ∧ (v.k = 1 → t.kind = 3 ∧ t.num = v.n) ∧ (v.k ≠ 0 → v.k ≠ 1 → t.kind = 4 ∧ t.text = v.t) := by
  have key : ∀ T : Tok, WfT T → tokS T = litT v → (litT v).length ≤ 2000 → ∃ t u : Tok, lexM (litT v) = ([t, u], ⟨0, 0⟩) ∧ t.z = T.z := by
    intro T hT hs hl
    have hw : writeM [T] = litT v := by simp [writeM, partsM, wf_kind hT, Lib.join_one, hs]
    obtain ⟨m, e1, e2⟩ := relexM (l := [T]) (by simpa using hT) (by rw [hw]; exact hl)
    rw [hw] at e1
    cases m with
    | nil => simp at e2
    | cons t m =>
      cases m with
      | nil => exact ⟨t, _, e1, by simpa using e2⟩
      | cons _ _ => simp at e2
  rcases right_cases h with e | e | ⟨e, ht⟩
  · rw [e] at key ⊢
    obtain ⟨t, u, e1, e2⟩ := key ⟨2, nullT, 0, 0⟩ (.word _ _ (by decide)) rfl (by decide)
    simp only [Tok.z, Tok.mk.injEq] at e2
    exact ⟨t, u, e1, fun _ => ⟨e2.1, e2.2.1⟩, fun h => (by cases h), fun h => absurd rfl h⟩
  · rw [e] at key hn ⊢
    have h0 : 0 ≤ v.n := hn rfl
    have hlen := Lib.itoa_length_le v.n (by omega) hm
    obtain ⟨t, u, e1, e2⟩ := key ⟨3, [], v.n, 0⟩ (.num _ _ h0 hm) rfl (by show (Lib.itoa v.n).length ≤ 2000; omega)
    simp only [Tok.z, Tok.mk.injEq] at e2
    exact ⟨t, u, e1, fun h => (by cases h), fun _ => ⟨e2.1, e2.2.2.1⟩, fun _ h => absurd rfl h⟩
  · rw [e] at key ⊢
    have hlen := esc_len v.t
    obtain ⟨t, u, e1, e2⟩ := key ⟨4, v.t, 0, 0⟩ (.text _ _ ht) rfl (by show (quoteT v.t).length ≤ 2000; simp [quoteT]; omega)
    simp only [Tok.z, Tok.mk.injEq] at e2
    exact ⟨t, u, e1, fun h => (by cases h), fun h => (by cases h), fun _ _ => ⟨e2.1, e2.2.1⟩⟩
set_option maxRecDepth 100000 in
set_option maxHeartbeats 2000000 in
theorem literals_pc (v : Vl) (h0 : -9223372036854775808 ≤ v.n) (h1 : v.n ≤ 9223372036854775807) : Pure Tryd.prog 3 [vPV v] (.bool true) := by
  have p1 := Right_pc v
  have hr : rightV v = 0 → v.t.length ≤ 100000 := fun h => by
    rcases right_cases h with e | e | ⟨e, ht⟩
    · rw [e]; simp
    · rw [e]; simp
    · omega
  have p2 := fun h => literal_text h0 h1 (hr h)
  have p3 := lex_pc (litT v)
  have hlaw := fun h hn => lit_law (v := v) h hn h1
  have hcases := right_cases (v := v)
  generalize litT v = s at p2 p3 hlaw
  generalize rightV v = rv at p1 p2 hlaw hcases
  obtain ⟨k, n, x⟩ := v
  simp only [vPV, vC, Vl.mk.injEq] at p1 p2 p3 hlaw hcases ⊢
  refine PC.intro tab_ok Tryd.func3 rfl (by kernel_rfl) Tryd.ntmps3 (Nat.le_of_ble_eq_true rfl) (rs := _) (congrArg Array.toList Tryd.results3) ?_
  (repeat (refine PW.go tab_ok [] fun K hK => ?_; simp only [go_sem, ↓reduceIte, reduceCtorEq, Nat.reduceBEq, Nat.reduceAdd, Nat.reduceMul, Nat.reduceSub, Nat.reduceLT, Nat.reduceLeDiff, Nat.reduceEqDiff]; (refine hK _ _ ?_; clear hK K)))
  refine PW.go tab_ok [] fun K hK => ?_
  simp only [go_sem, ↓reduceIte, reduceCtorEq, Nat.reduceBEq, Nat.reduceAdd, Nat.reduceMul, Nat.reduceSub, Nat.reduceLT, Nat.reduceLeDiff, Nat.reduceEqDiff]
  refine lexSmall_pc.use (Weaks.refl _) rfl rfl ?_
  refine PO.go tab_ok [] ?_
  simp only [go_sem, ↓reduceIte, reduceCtorEq, Nat.reduceBEq, Nat.reduceAdd, Nat.reduceMul, Nat.reduceSub, Nat.reduceLT, Nat.reduceLeDiff, Nat.reduceEqDiff]
  (refine hK _ _ ?_; (try clear hK); (try clear K))
  refine PW.seq_k fun K0 hK0 => ?_
  refine PW.go tab_ok [] fun K hK => ?_
  simp only [go_sem, ↓reduceIte, reduceCtorEq, Nat.reduceBEq, Nat.reduceAdd, Nat.reduceMul, Nat.reduceSub, Nat.reduceLT, Nat.reduceLeDiff, Nat.reduceEqDiff]
  refine p1.use (Weaks.refl _) rfl rfl ?_
  refine PO.go tab_ok [] ?_
  by_cases hr0 : rv = 0
  rotate_left
  · have hb : (rv != 0) = true := by simpa using hr0
    simp only [hb, go_sem, ↓reduceIte, reduceCtorEq, Nat.reduceBEq, Nat.reduceAdd, Nat.reduceMul, Nat.reduceSub, Nat.reduceLT, Nat.reduceLeDiff, Nat.reduceEqDiff]
    (refine hK _ _ ?_; (try clear hK); (try clear K))
    refine PW.cond_split (b := true) rfl ?_ ?_ <;> intro hb2
    · (repeat (refine PW.go tab_ok [] fun K hK => ?_; simp only [go_sem, ↓reduceIte, reduceCtorEq, Nat.reduceBEq, Nat.reduceAdd, Nat.reduceMul, Nat.reduceSub, Nat.reduceLT, Nat.reduceLeDiff, Nat.reduceEqDiff]; (refine hK _ _ ?_; clear hK K)))
      exact PW.ret (Pure.ret rfl rfl rfl)
    · cases hb2
  have hb : (rv != 0) = false := by simp [hr0]
  have p2' := p2 hr0
  rcases hcases hr0 with ⟨rfl, rfl, rfl⟩ | ⟨rfl, -, rfl⟩ | ⟨⟨rfl, rfl, -⟩, ht⟩
  · obtain ⟨t, u, e1, g0, -⟩ := hlaw hr0 (by decide)
    obtain ⟨gk, gt⟩ := g0 rfl
    obtain ⟨tk, tt, tn, ta⟩ := t
    simp only at gk gt
    subst gk gt
    rw [e1] at p3
    simp only [hb, go_sem, ↓reduceIte, reduceCtorEq, Nat.reduceBEq, Nat.reduceAdd, Nat.reduceMul, Nat.reduceSub, Nat.reduceLT, Nat.reduceLeDiff, Nat.reduceEqDiff]
    (refine hK _ _ ?_; (try clear hK); (try clear K))
    refine PW.cond_split (b := false) rfl ?_ ?_ <;> intro hb2
    · cases hb2
    refine PW.skip (hK0 _ _ ?_); clear hK0 K0
    refine PW.go tab_ok [] fun K hK => ?_
    simp only [go_sem, ↓reduceIte, reduceCtorEq, Nat.reduceBEq, Nat.reduceAdd, Nat.reduceMul, Nat.reduceSub, Nat.reduceLT, Nat.reduceLeDiff, Nat.reduceEqDiff]
    refine p2'.use (Weaks.refl _) rfl rfl ?_
    refine PO.go tab_ok [] ?_
    simp only [go_sem, ↓reduceIte, reduceCtorEq, Nat.reduceBEq, Nat.reduceAdd, Nat.reduceMul, Nat.reduceSub, Nat.reduceLT, Nat.reduceLeDiff, Nat.reduceEqDiff]
    refine p3.use (Weaks.refl _) rfl rfl ?_
    refine PO.go tab_ok [] ?_
    simp only [ftPV, toksPV, tokPV, List.map_cons, List.map_nil, go_sem, ↓reduceIte, reduceCtorEq, Nat.reduceBEq, Nat.reduceAdd, Nat.reduceMul, Nat.reduceSub, Nat.reduceLT, Nat.reduceLeDiff, Nat.reduceEqDiff]
    (refine hK _ _ ?_; (try clear hK); (try clear K))
    refine PW.seq_k fun K0 hK0 => ?_
    refine PW.go tab_ok [] fun K hK => ?_
    simp only [go_sem, ↓reduceIte, reduceCtorEq, Nat.reduceBEq, Nat.reduceAdd, Nat.reduceMul, Nat.reduceSub, Nat.reduceLT, Nat.reduceLeDiff, Nat.reduceEqDiff]
    (refine hK _ _ ?_; (try clear hK); (try clear K))
    refine PW.cond_split (b := false) rfl ?_ ?_ <;> intro hb3
    · cases hb3
    refine PW.skip (hK0 _ _ ?_); clear hK0 K0
    refine PW.go tab_ok [] fun K hK => ?_
    simp only [Int.toNat_zero, go_sem, ↓reduceIte, reduceCtorEq, Nat.reduceBEq, Nat.reduceAdd, Nat.reduceMul, Nat.reduceSub, Nat.reduceLT, Nat.reduceLeDiff, Nat.reduceEqDiff]
    (refine hK _ _ ?_; (try clear hK); (try clear K))
    refine PW.seq_k fun K0 hK0 => ?_
    refine PW.go tab_ok [] fun K hK => ?_
    simp only [go_sem, ↓reduceIte, reduceCtorEq, Nat.reduceBEq, Nat.reduceAdd, Nat.reduceMul, Nat.reduceSub, Nat.reduceLT, Nat.reduceLeDiff, Nat.reduceEqDiff]
    (refine hK _ _ ?_; (try clear hK); (try clear K))
    refine PW.block ?_
    refine PW.go tab_ok [] fun K hK => ?_
    simp only [go_sem, ↓reduceIte, reduceCtorEq, Nat.reduceBEq, Nat.reduceAdd, Nat.reduceMul, Nat.reduceSub, Nat.reduceLT, Nat.reduceLeDiff, Nat.reduceEqDiff]
    (refine hK _ _ ?_; (try clear hK); (try clear K))
    refine PW.cond_split (b := true) rfl ?_ ?_ <;> intro hb4
    · refine PW.go tab_ok [] fun K hK => ?_
      simp only [nullT, go_sem, ↓reduceIte, reduceCtorEq, Nat.reduceBEq, Nat.reduceAdd, Nat.reduceMul, Nat.reduceSub, Nat.reduceLT, Nat.reduceLeDiff, Nat.reduceEqDiff]
      (refine hK _ _ ?_; (try clear hK); (try clear K))
      exact PW.ret (Pure.ret rfl rfl rfl)
    · cases hb4
  · by_cases hn : n < 0
    · have k2 : decide (n < 0) = true := by simpa using hn
      simp only [hb, k2, go_sem, ↓reduceIte, reduceCtorEq, Nat.reduceBEq, Nat.reduceAdd, Nat.reduceMul, Nat.reduceSub, Nat.reduceLT, Nat.reduceLeDiff, Nat.reduceEqDiff]
      (refine hK _ _ ?_; (try clear hK); (try clear K))
      refine PW.cond_split (b := true) rfl ?_ ?_ <;> intro hb2
      · (repeat (refine PW.go tab_ok [] fun K hK => ?_; simp only [go_sem, ↓reduceIte, reduceCtorEq, Nat.reduceBEq, Nat.reduceAdd, Nat.reduceMul, Nat.reduceSub, Nat.reduceLT, Nat.reduceLeDiff, Nat.reduceEqDiff]; (refine hK _ _ ?_; clear hK K)))
        exact PW.ret (Pure.ret rfl rfl rfl)
      · cases hb2
    have k2 : decide (n < 0) = false := by simpa using hn
    obtain ⟨t, u, e1, -, g1, -⟩ := hlaw hr0 fun _ => by omega
    obtain ⟨gk, gt⟩ := g1 rfl
    obtain ⟨tk, tt, tn, ta⟩ := t
    simp only at gk gt
    subst gk gt
    rw [e1] at p3
    simp only [hb, k2, go_sem, ↓reduceIte, reduceCtorEq, Nat.reduceBEq, Nat.reduceAdd, Nat.reduceMul, Nat.reduceSub, Nat.reduceLT, Nat.reduceLeDiff, Nat.reduceEqDiff]
    (refine hK _ _ ?_; (try clear hK); (try clear K))
    refine PW.cond_split (b := false) rfl ?_ ?_ <;> intro hb2
    · cases hb2
    refine PW.skip (hK0 _ _ ?_); clear hK0 K0
    refine PW.go tab_ok [] fun K hK => ?_
    simp only [go_sem, ↓reduceIte, reduceCtorEq, Nat.reduceBEq, Nat.reduceAdd, Nat.reduceMul, Nat.reduceSub, Nat.reduceLT, Nat.reduceLeDiff, Nat.reduceEqDiff]
    refine p2'.use (Weaks.refl _) rfl rfl ?_
    refine PO.go tab_ok [] ?_
    simp only [go_sem, ↓reduceIte, reduceCtorEq, Nat.reduceBEq, Nat.reduceAdd, Nat.reduceMul, Nat.reduceSub, Nat.reduceLT, Nat.reduceLeDiff, Nat.reduceEqDiff]
    refine p3.use (Weaks.refl _) rfl rfl ?_
    refine PO.go tab_ok [] ?_
    simp only [ftPV, toksPV, tokPV, List.map_cons, List.map_nil, go_sem, ↓reduceIte, reduceCtorEq, Nat.reduceBEq, Nat.reduceAdd, Nat.reduceMul, Nat.reduceSub, Nat.reduceLT, Nat.reduceLeDiff, Nat.reduceEqDiff]
    (refine hK _ _ ?_; (try clear hK); (try clear K))
    refine PW.seq_k fun K0 hK0 => ?_
    refine PW.go tab_ok [] fun K hK => ?_
    simp only [go_sem, ↓reduceIte, reduceCtorEq, Nat.reduceBEq, Nat.reduceAdd, Nat.reduceMul, Nat.reduceSub, Nat.reduceLT, Nat.reduceLeDiff, Nat.reduceEqDiff]
    (refine hK _ _ ?_; (try clear hK); (try clear K))
    refine PW.cond_split (b := false) rfl ?_ ?_ <;> intro hb3
    · cases hb3
    refine PW.skip (hK0 _ _ ?_); clear hK0 K0
    refine PW.go tab_ok [] fun K hK => ?_
    simp only [Int.toNat_zero, go_sem, ↓reduceIte, reduceCtorEq, Nat.reduceBEq, Nat.reduceAdd, Nat.reduceMul, Nat.reduceSub, Nat.reduceLT, Nat.reduceLeDiff, Nat.reduceEqDiff]
    (refine hK _ _ ?_; (try clear hK); (try clear K))
    refine PW.seq_k fun K0 hK0 => ?_
    refine PW.go tab_ok [] fun K hK => ?_
    simp only [go_sem, ↓reduceIte, reduceCtorEq, Nat.reduceBEq, Nat.reduceAdd, Nat.reduceMul, Nat.reduceSub, Nat.reduceLT, Nat.reduceLeDiff, Nat.reduceEqDiff]
    (refine hK _ _ ?_; (try clear hK); (try clear K))
    refine PW.block ?_
    refine PW.go tab_ok [] fun K hK => ?_
    simp only [go_sem, ↓reduceIte, reduceCtorEq, Nat.reduceBEq, Nat.reduceAdd, Nat.reduceMul, Nat.reduceSub, Nat.reduceLT, Nat.reduceLeDiff, Nat.reduceEqDiff]
    (refine hK _ _ ?_; (try clear hK); (try clear K))
    refine PW.cond_split (b := false) rfl ?_ ?_ <;> intro hb4
    · cases hb4
    refine PW.go tab_ok [] fun K hK => ?_
    simp only [go_sem, ↓reduceIte, reduceCtorEq, Nat.reduceBEq, Nat.reduceAdd, Nat.reduceMul, Nat.reduceSub, Nat.reduceLT, Nat.reduceLeDiff, Nat.reduceEqDiff]
    (refine hK _ _ ?_; (try clear hK); (try clear K))
    refine PW.cond_split (b := true) rfl ?_ ?_ <;> intro hb5
    · refine PW.go tab_ok [] fun K hK => ?_
      simp only [beq_self_eq_true, go_sem, ↓reduceIte, reduceCtorEq, Nat.reduceBEq, Nat.reduceAdd, Nat.reduceMul, Nat.reduceSub, Nat.reduceLT, Nat.reduceLeDiff, Nat.reduceEqDiff]
      (refine hK _ _ ?_; (try clear hK); (try clear K))
      exact PW.ret (Pure.ret rfl rfl rfl)
    · cases hb5
  · obtain ⟨t, u, e1, -, -, g2⟩ := hlaw hr0 (by decide)
    obtain ⟨gk, gt⟩ := g2 (by decide) (by decide)
    obtain ⟨tk, tt, tn, ta⟩ := t
    simp only at gk gt
    subst gk gt
    rw [e1] at p3
    simp only [hb, go_sem, ↓reduceIte, reduceCtorEq, Nat.reduceBEq, Nat.reduceAdd, Nat.reduceMul, Nat.reduceSub, Nat.reduceLT, Nat.reduceLeDiff, Nat.reduceEqDiff]
    (refine hK _ _ ?_; (try clear hK); (try clear K))
    refine PW.cond_split (b := false) rfl ?_ ?_ <;> intro hb2
    · cases hb2
    refine PW.skip (hK0 _ _ ?_); clear hK0 K0
    refine PW.go tab_ok [] fun K hK => ?_
    simp only [go_sem, ↓reduceIte, reduceCtorEq, Nat.reduceBEq, Nat.reduceAdd, Nat.reduceMul, Nat.reduceSub, Nat.reduceLT, Nat.reduceLeDiff, Nat.reduceEqDiff]
    refine p2'.use (Weaks.refl _) rfl rfl ?_
    refine PO.go tab_ok [] ?_
    simp only [go_sem, ↓reduceIte, reduceCtorEq, Nat.reduceBEq, Nat.reduceAdd, Nat.reduceMul, Nat.reduceSub, Nat.reduceLT, Nat.reduceLeDiff, Nat.reduceEqDiff]
    refine p3.use (Weaks.refl _) rfl rfl ?_
    refine PO.go tab_ok [] ?_
    simp only [ftPV, toksPV, tokPV, List.map_cons, List.map_nil, go_sem, ↓reduceIte, reduceCtorEq, Nat.reduceBEq, Nat.reduceAdd, Nat.reduceMul, Nat.reduceSub, Nat.reduceLT, Nat.reduceLeDiff, Nat.reduceEqDiff]
    (refine hK _ _ ?_; (try clear hK); (try clear K))
    refine PW.seq_k fun K0 hK0 => ?_
    refine PW.go tab_ok [] fun K hK => ?_
    simp only [go_sem, ↓reduceIte, reduceCtorEq, Nat.reduceBEq, Nat.reduceAdd, Nat.reduceMul, Nat.reduceSub, Nat.reduceLT, Nat.reduceLeDiff, Nat.reduceEqDiff]
    (refine hK _ _ ?_; (try clear hK); (try clear K))
    refine PW.cond_split (b := false) rfl ?_ ?_ <;> intro hb3
    · cases hb3
    refine PW.skip (hK0 _ _ ?_); clear hK0 K0
    refine PW.go tab_ok [] fun K hK => ?_
    simp only [Int.toNat_zero, go_sem, ↓reduceIte, reduceCtorEq, Nat.reduceBEq, Nat.reduceAdd, Nat.reduceMul, Nat.reduceSub, Nat.reduceLT, Nat.reduceLeDiff, Nat.reduceEqDiff]
    (refine hK _ _ ?_; (try clear hK); (try clear K))
    refine PW.seq_k fun K0 hK0 => ?_
    refine PW.go tab_ok [] fun K hK => ?_
    simp only [go_sem, ↓reduceIte, reduceCtorEq, Nat.reduceBEq, Nat.reduceAdd, Nat.reduceMul, Nat.reduceSub, Nat.reduceLT, Nat.reduceLeDiff, Nat.reduceEqDiff]
    (refine hK _ _ ?_; (try clear hK); (try clear K))
    refine PW.block ?_
    refine PW.go tab_ok [] fun K hK => ?_
    simp only [go_sem, ↓reduceIte, reduceCtorEq, Nat.reduceBEq, Nat.reduceAdd, Nat.reduceMul, Nat.reduceSub, Nat.reduceLT, Nat.reduceLeDiff, Nat.reduceEqDiff]
    (refine hK _ _ ?_; (try clear hK); (try clear K))
    refine PW.cond_split (b := false) rfl ?_ ?_ <;> intro hb4
    · cases hb4
    refine PW.go tab_ok [] fun K hK => ?_
    simp only [go_sem, ↓reduceIte, reduceCtorEq, Nat.reduceBEq, Nat.reduceAdd, Nat.reduceMul, Nat.reduceSub, Nat.reduceLT, Nat.reduceLeDiff, Nat.reduceEqDiff]
    (refine hK _ _ ?_; (try clear hK); (try clear K))
    refine PW.cond_split (b := false) rfl ?_ ?_ <;> intro hb5
    · cases hb5
    refine PW.skip (hK0 _ _ ?_); clear hK0 K0
    refine PW.go tab_ok [] fun K hK => ?_
    simp only [beq_self_eq_true, go_sem, ↓reduceIte, reduceCtorEq, Nat.reduceBEq, Nat.reduceAdd, Nat.reduceMul, Nat.reduceSub, Nat.reduceLT, Nat.reduceLeDiff, Nat.reduceEqDiff]
    (refine hK _ _ ?_; (try clear hK); (try clear K))
    exact PW.ret (Pure.ret rfl rfl rfl)
end Go.Proofs.YtolhbjfaahcekaaDoor
end
