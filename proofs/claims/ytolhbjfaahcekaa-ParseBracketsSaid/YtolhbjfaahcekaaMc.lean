/- Texts of this claim's author, joined: Pi, Pj, Pk, Pl, Pm, Pn, Qh, Sb, Qi, Sc, Za, Ra, Rb, Rc, Rd, Re, Rf, Rg, Rh, La, Lb, Lc. -/
import Derived.Test.YtolhbjfaahcekaaMb
import Derived.Test.YtolhbjfaahcekaaMa
import Derived.Lib.IndexBytes
import Derived.Test.YtolhbjfaahcekaaRows
import Derived.ProofKit
import Derived.Below
import Derived.ChangeSame
import Derived.ChangeMaps5
section
/- The parser's reader: rows of operators. -/
set_option linter.unusedVariables false
set_option linter.unusedSimpArgs false
namespace Go.Proofs.Ytolhbjfaahcekaa
open Go

/-- A method that reads a tree. -/
structure Fn (g : FuncId) (d : Int) (m : R → Ex × R) : Prop where
  pc : ∀ q : R, q.ok → q.d = d → OneM Try.prog g [] q (exPV (m q).1) (m q).2
  ok : ∀ q : R, q.ok → (m q).2.ok
  dd : ∀ q : R, (m q).2.d = q.d
  le : ∀ q : R, (m q).2.ts.length ≤ q.ts.length
def opM (o : Int) (e f : Ex) : Ex := .mk 3 o [] [] v0 [e, f]
def rowL (below : R → Ex × R) (first : Int) (ops : List Str) : Nat → Ex → R → Ex × R
  | 0, e, r => (e, r)
  | n + 1, e, r => if (passM ops r).1 < 0 then (e, (passM ops r).2) else rowL below first ops n (opM (first + (passM ops r).1) e (below (passM ops r).2).1) (below (passM ops r).2).2
def rowM (below : R → Ex × R) (first : Int) (ops : List Str) (r : R) : Ex × R := rowL below first ops (below r).2.ts.length (below r).1 (below r).2
theorem R.ok.pos {r : R} (h : r.ok) : 1 ≤ r.ts.length := by
  obtain ⟨t, ts, h1, _⟩ := h.cons
  rw [h1]
  simp
theorem passM_lt_len (ls : List Str) (r : R) : (passM ls r).1 < ls.length := by
  simp only [passM, isM]
  split
  · exact (idx_ge ls _).2
  · omega
theorem passM_d (ls : List Str) (r : R) : (passM ls r).2.d = r.d := by unfold passM; split <;> rfl
theorem tail_le (r : R) : r.tail.ts.length ≤ r.ts.length := by simp [R.tail]
theorem tail_lt {r : R} (h : 1 ≤ r.ts.length) : r.tail.ts.length + 1 ≤ r.ts.length := by simp [R.tail]; omega
theorem passM_le (ls : List Str) (r : R) : (passM ls r).2.ts.length ≤ r.ts.length := by
  unfold passM
  split
  · exact tail_le r
  · exact Nat.le_refl _
theorem passM_lt {ls : List Str} {r : R} (h : r.ok) (hk : 0 ≤ (passM ls r).1) : (passM ls r).2.ts.length + 1 ≤ r.ts.length := by
  have hk' : 0 ≤ isM ls r := hk
  simp only [passM, if_pos hk']
  exact tail_lt h.pos
theorem rowL_d {below : R → Ex × R} (hb : ∀ q, (below q).2.d = q.d) (first : Int) (ops : List Str) : ∀ (n : Nat) (e : Ex) (r : R), (rowL below first ops n e r).2.d = r.d
  | 0, e, r => rfl
  | n + 1, e, r => by
    unfold rowL
    split
    · exact passM_d ops r
    · rw [rowL_d hb first ops n, hb, passM_d]
theorem rowL_le {below : R → Ex × R} (hb : ∀ q, (below q).2.ts.length ≤ q.ts.length) (first : Int) (ops : List Str) : ∀ (n : Nat) (e : Ex) (r : R), (rowL below first ops n e r).2.ts.length ≤ r.ts.length
  | 0, e, r => Nat.le_refl _
  | n + 1, e, r => by
    unfold rowL
    split
    · exact passM_le ops r
    · exact Nat.le_trans (rowL_le hb first ops n _ _) (Nat.le_trans (hb _) (passM_le ops r))
theorem rowL_ok {below : R → Ex × R} (hb : ∀ q : R, q.ok → (below q).2.ok) (first : Int) (ops : List Str) : ∀ (n : Nat) (e : Ex) (r : R), r.ok → (rowL below first ops n e r).2.ok
  | 0, e, r, h => h
  | n + 1, e, r, h => by
    unfold rowL
    split
    · exact passM_ok h
    · exact rowL_ok hb first ops n _ _ (hb _ (passM_ok h))

def ex8 : List PV := [.int .i64 0, .int .i64 0, .str [], .str [], .int .i64 0, .int .i64 0, .str [], .list 0 [] .nil]
theorem r_all (r : R) : (rPV r).all PV.isCell = true := rfl
theorem Boxes.refl : ∀ {box : List (List PV)}, (∀ cs ∈ box, ∀ c ∈ cs, c.isCell = true) → Boxes box box
  | [], _ => .nil
  | x :: xs, h => .cons (Weaks.refl x) (h x (by simp)) (Boxes.refl fun cs hc => h cs (by simp [hc]))
theorem left_app {box rest : List (List PV)} {len : List Nat} (hcell : ∀ cs ∈ box, cs.all PV.isCell = true) (hclean : ∀ cs ∈ box, PVs.clean box.length 0 cs = true) : Left ⟨box ++ rest, len⟩ ⟨box, []⟩ := by
  refine ⟨?_, by simp, hclean⟩
  simp only [List.take_left']
  exact Boxes.refl (fun cs h c hc => List.all_eq_true.1 (hcell cs h) c hc)
theorem row_pc {g : FuncId} {d : Int} {below : R → Ex × R} (hb : Fn g d below) {first : Int} (hf0 : 0 ≤ first) (hf1 : first ≤ 1000) {ops : List Str} (hl : ops.length ≤ 1000) {r : R} (h : r.ok) (hd : r.d = d) :
    OneC Try.prog 18 g [.int .i64 first, .list 1 (strs ops) .no] r (exPV (rowM below first ops r).1) (rowM below first ops r).2 := by
  refine PC.intro tab_ok Try.func18 rfl (by kernel_rfl) Try.ntmps18 (Nat.le_of_ble_eq_true rfl) (rs := _) (congrArg Array.toList Try.results18) ?_
  refine PW.go tab_ok [] fun K hK => ?_
  simp only [go_sem, ↓reduceIte, reduceCtorEq, Nat.reduceBEq, Nat.reduceAdd, Nat.reduceMul, Nat.reduceSub, Nat.reduceLT, Nat.reduceLeDiff, Nat.reduceEqDiff]
  (refine hK _ _ ?_; (try clear hK); (try clear K))
  refine PW.go tab_ok [] fun K hK => ?_
  simp only [go_sem, ↓reduceIte, reduceCtorEq, Nat.reduceBEq, Nat.reduceAdd, Nat.reduceMul, Nat.reduceSub, Nat.reduceLT, Nat.reduceLeDiff, Nat.reduceEqDiff]
  refine (hb.pc r h hd).use 0 rfl (Weaks.refl _) rfl ?_
  refine PO.go tab_ok [] ?_
  simp only [exPV_cells, exC_len, exC_all, go_sem, ↓reduceIte, reduceCtorEq, Nat.reduceBEq, Nat.reduceAdd, Nat.reduceMul, Nat.reduceSub, Nat.reduceLT, Nat.reduceLeDiff, Nat.reduceEqDiff]
  (refine hK _ _ ?_; (try clear hK); (try clear K))
  refine PW.seq_k fun K0 hK0 => ?_
  refine PW.go tab_ok [] fun K hK => ?_
  simp only [go_sem, ↓reduceIte, reduceCtorEq, Nat.reduceBEq, Nat.reduceAdd, Nat.reduceMul, Nat.reduceSub, Nat.reduceLT, Nat.reduceLeDiff, Nat.reduceEqDiff]
  refine (pass_pc (by omega) (hb.ok r h)).use 0 rfl (Weaks.refl _) (strs_clean1 ops) ?_
  refine PO.go tab_ok [] ?_
  simp only [go_sem, ↓reduceIte, reduceCtorEq, Nat.reduceBEq, Nat.reduceAdd, Nat.reduceMul, Nat.reduceSub, Nat.reduceLT, Nat.reduceLeDiff, Nat.reduceEqDiff]
  (refine hK _ _ ?_; (try clear hK); (try clear K))
  refine PW.block (PW.loop (α := Nat × Ex × R) (fun a => [(10, .int .i64 (passM ops a.2.2).1), (9, .ref 2 0), (8, .ref 1 0), (0, .ref 0 0), (1, .clo (.func g) [.ref 0 0] []), (2, .int .i64 first), (3, .list 1 (strs ops) .no)])
    (fun a => ⟨[rPV (passM ops a.2.2).2, [.int .i64 0, .int .i64 0, .str [], .str [], .int .i64 0, .int .i64 0, .str [], .list 0 [] .nil], exC a.2.1], []⟩)
    (fun a => a.2.2.ok ∧ a.2.2.d = d ∧ a.2.2.ts.length ≤ a.1 ∧ rowL below first ops a.1 a.2.1 a.2.2 = rowM below first ops r) (fun a => a.1) ((below r).2.ts.length, (below r).1, (below r).2)
    ⟨hb.ok r h, by rw [hb.dd, hd], Nat.le_refl _, rfl⟩ ?_ rfl (fun _ _ => ⟨rfl, rfl⟩) ?_)
  · simp [Sub, eget]
  rintro ⟨n, e, q⟩ ⟨hq, hqd, hqn, hqr⟩
  simp only at hq hqd hqn hqr
  refine PW.seq_k fun K2 hK2 => ?_
  refine PW.go tab_ok [] fun K hK => ?_
  simp only [go_sem, ↓reduceIte, reduceCtorEq, Nat.reduceBEq, Nat.reduceAdd, Nat.reduceMul, Nat.reduceSub, Nat.reduceLT, Nat.reduceLeDiff, Nat.reduceEqDiff]
  (refine hK _ _ ?_; (try clear hK); (try clear K))
  refine PW.cond_split (b := decide ((passM ops q).1 ≥ 0)) rfl ?_ ?_ <;> intro hc
  · have hk : 0 ≤ (passM ops q).1 := by simpa using hc
    have hk' : ¬ (passM ops q).1 < 0 := by omega
    have hkl : (passM ops q).1 < ops.length := passM_lt_len ops q
    refine PW.skip (hK2 _ _ ?_)
    clear hK2 K2
    refine PW.seq_k fun K3 hK3 => PW.block ?_
    refine PW.go tab_ok [] fun K hK => ?_
    simp only [go_sem, ↓reduceIte, reduceCtorEq, Nat.reduceBEq, Nat.reduceAdd, Nat.reduceMul, Nat.reduceSub, Nat.reduceLT, Nat.reduceLeDiff, Nat.reduceEqDiff]
    refine (hb.pc (passM ops q).2 (passM_ok hq) (by rw [passM_d, hqd])).use 0 rfl (Weaks.refl _) rfl ?_
    refine PO.go tab_ok [] ?_
    simp only [exPV_cells, exC_len, exC_all, go_sem, ↓reduceIte, reduceCtorEq, Nat.reduceBEq, Nat.reduceAdd, Nat.reduceMul, Nat.reduceSub, Nat.reduceLT, Nat.reduceLeDiff, Nat.reduceEqDiff]
    (refine hK _ _ ?_; (try clear hK); (try clear K))
    have hw : IntKind.i64.wrap (first + (passM ops q).1) = first + (passM ops q).1 := wrap_small (by omega) (by omega)
    refine PW.goL tab_ok [] fun K hK => ?_
    simp only [hw, exPV_cells, exC_len, exC_all, exC_take, exC_drop, agg_exC, go_sem, ↓reduceIte, reduceCtorEq, Nat.reduceBEq, Nat.reduceAdd, Nat.reduceMul, Nat.reduceSub, Nat.reduceLT, Nat.reduceLeDiff, Nat.reduceEqDiff]
    (refine hK _ _ ?_; (try clear hK); (try clear K))
    refine hK3 _ _ ?_
    clear hK3 K3
    refine PW.goL tab_ok [] fun K hK => ?_
    simp only [go_sem, ↓reduceIte, reduceCtorEq, Nat.reduceBEq, Nat.reduceAdd, Nat.reduceMul, Nat.reduceSub, Nat.reduceLT, Nat.reduceLeDiff, Nat.reduceEqDiff]
    refine (pass_pc (by omega) (hb.ok _ (passM_ok hq))).use 0 rfl (Weaks.refl _) (strs_clean1 ops) ?_
    refine PO.go tab_ok [] ?_
    simp only [go_sem, ↓reduceIte, reduceCtorEq, Nat.reduceBEq, Nat.reduceAdd, Nat.reduceMul, Nat.reduceSub, Nat.reduceLT, Nat.reduceLeDiff, Nat.reduceEqDiff]
    (refine hK _ _ ?_; (try clear hK); (try clear K))
    have hpos : 1 ≤ n := Nat.le_trans hq.pos hqn
    obtain ⟨m, rfl⟩ : ∃ m, n = m + 1 := ⟨n - 1, by omega⟩
    refine ⟨(m, opM (first + (passM ops q).1) e (below (passM ops q).2).1, (below (passM ops q).2).2), ⟨hb.ok _ (passM_ok hq), by rw [hb.dd, passM_d, hqd], ?_, ?_⟩, by simp, by simp [Sub, eget], ?_, ?_⟩
    · have h1 := hb.le (passM ops q).2
      have h2 := passM_lt hq hk
      simp only at hqn ⊢
      omega
    · rw [← hqr]
      simp only [rowL, if_neg hk']
    · refine left_app (box := [rPV (passM ops (below (passM ops q).2).2).2, ex8, exC (opM (first + (passM ops q).1) e (below (passM ops q).2).1)]) (rest := [_]) ?_ ?_
      · intro cs hcs
        simp only [List.mem_cons, List.not_mem_nil, or_false] at hcs
        rcases hcs with rfl | rfl | rfl
        · exact r_all _
        · rfl
        · exact exC_all _
      · intro cs hcs
        simp only [List.mem_cons, List.not_mem_nil, or_false] at hcs
        rcases hcs with rfl | rfl | rfl
        · exact PVs.clean_data (r_clean _)
        · rfl
        · exact PVs.clean_data (ex_clean _)
    · simp [Env.clean, PV.clean, PVs.clean_data (strs_clean ops), PVs.clean]
  · have hk : ¬ 0 ≤ (passM ops q).1 := by simpa using hc
    have hk' : (passM ops q).1 < 0 := by omega
    refine PW.exit (hK0 _ _ ?_)
    clear hK0 hK2 K2 K0
    have hpos : 1 ≤ n := Nat.le_trans hq.pos hqn
    obtain ⟨m, rfl⟩ : ∃ m, n = m + 1 := ⟨n - 1, by omega⟩
    simp only [rowL, if_pos hk'] at hqr
    refine PW.go tab_ok [] fun K hK => ?_
    simp only [exPV_cells, exC_len, exC_all, exC_take, exC_drop, agg_exC, go_sem, ↓reduceIte, reduceCtorEq, Nat.reduceBEq, Nat.reduceAdd, Nat.reduceMul, Nat.reduceSub, Nat.reduceLT, Nat.reduceLeDiff, Nat.reduceEqDiff]
    (refine hK _ _ ?_; (try clear hK); (try clear K))
    refine PW.ret (OneM.fin (r' := (rowM below first ops r).2) (.inl rfl) (res_cell (x := exPV e) rfl rfl (by simp only [exPV_cells, exC_len, exC_all, exC_take, exC_drop, agg_exC, go_sem, ↓reduceIte, reduceCtorEq, Nat.reduceBEq, Nat.reduceAdd, Nat.reduceMul, Nat.reduceSub, Nat.reduceLT, Nat.reduceLeDiff, Nat.reduceEqDiff])) ?_ ?_ (exPV_clean _))
    · rw [← hqr]
    · rw [← hqr]
      exact .refl _
end Go.Proofs.Ytolhbjfaahcekaa
end
section
/- The parser's reader: the levels of an expression. -/
set_option linter.unusedVariables false
set_option linter.unusedSimpArgs false
namespace Go.Proofs.Ytolhbjfaahcekaa
open Go

theorem rowM_fn {below : R → Ex × R} (first : Int) (ops : List Str) (hok : ∀ q : R, q.ok → (below q).2.ok) (hdd : ∀ q : R, (below q).2.d = q.d) (hle : ∀ q : R, (below q).2.ts.length ≤ q.ts.length) :
    (∀ q : R, q.ok → (rowM below first ops q).2.ok) ∧ (∀ q : R, (rowM below first ops q).2.d = q.d) ∧ ∀ q : R, (rowM below first ops q).2.ts.length ≤ q.ts.length :=
  ⟨fun q h => rowL_ok hok first ops _ _ _ (hok q h), fun q => (rowL_d hdd first ops _ _ _).trans (hdd q), fun q => Nat.le_trans (rowL_le hle first ops _ _ _) (hle q)⟩
def termOps : List Str := [[42], [47], [37]]
theorem term_fn {d : Int} {below : R → Ex × R} (hb : Fn 75 d below) : Fn 74 d (rowM below 11 termOps) := by
  obtain ⟨h1, h2, h3⟩ := rowM_fn 11 termOps hb.ok hb.dd hb.le
  refine ⟨fun r h hd => ?_, h1, h2, h3⟩
  refine PC.intro tab_ok Try.func74 rfl (by kernel_rfl) Try.ntmps74 (Nat.le_of_ble_eq_true rfl) (rs := _) (congrArg Array.toList Try.results74) ?_
  refine PW.go tab_ok [] fun K hK => ?_
  simp only [go_sem, ↓reduceIte, reduceCtorEq, Nat.reduceBEq, Nat.reduceAdd, Nat.reduceMul, Nat.reduceSub, Nat.reduceLT, Nat.reduceLeDiff, Nat.reduceEqDiff]
  (refine hK _ _ ?_; (try clear hK); (try clear K))
  refine PW.go tab_ok [] fun K hK => ?_
  simp only [go_sem, ↓reduceIte, reduceCtorEq, Nat.reduceBEq, Nat.reduceAdd, Nat.reduceMul, Nat.reduceSub, Nat.reduceLT, Nat.reduceLeDiff, Nat.reduceEqDiff]
  refine (row_pc hb (first := 11) (by omega) (by omega) (ops := termOps) (by decide) h hd).use 0 rfl (Weaks.refl _) (by simp [PVs.clean, PV.clean, strs_clean]) ?_
  refine PO.go tab_ok [] ?_
  simp only [exPV_cells, exC_len, exC_all, exC_take, exC_drop, agg_exC, go_sem, ↓reduceIte, reduceCtorEq, Nat.reduceBEq, Nat.reduceAdd, Nat.reduceMul, Nat.reduceSub, Nat.reduceLT, Nat.reduceLeDiff, Nat.reduceEqDiff]
  (refine hK _ _ ?_; (try clear hK); (try clear K))
  exact PW.ret (OneM.fin (.inl rfl) (res_cell (x := exPV (rowM below 11 termOps r).1) rfl rfl (by simp only [exPV_cells, exC_len, exC_all, exC_take, exC_drop, agg_exC, go_sem, ↓reduceIte, reduceCtorEq, Nat.reduceBEq, Nat.reduceAdd, Nat.reduceMul, Nat.reduceSub, Nat.reduceLT, Nat.reduceLeDiff, Nat.reduceEqDiff])) rfl (.refl _) (exPV_clean _))
def sumOps : List Str := [[43], [45]]
theorem sum_fn {d : Int} {below : R → Ex × R} (hb : Fn 74 d below) : Fn 71 d (rowM below 9 sumOps) := by
  obtain ⟨h1, h2, h3⟩ := rowM_fn 9 sumOps hb.ok hb.dd hb.le
  refine ⟨fun r h hd => ?_, h1, h2, h3⟩
  refine PC.intro tab_ok Try.func71 rfl (by kernel_rfl) Try.ntmps71 (Nat.le_of_ble_eq_true rfl) (rs := _) (congrArg Array.toList Try.results71) ?_
  refine PW.go tab_ok [] fun K hK => ?_
  simp only [go_sem, ↓reduceIte, reduceCtorEq, Nat.reduceBEq, Nat.reduceAdd, Nat.reduceMul, Nat.reduceSub, Nat.reduceLT, Nat.reduceLeDiff, Nat.reduceEqDiff]
  (refine hK _ _ ?_; (try clear hK); (try clear K))
  refine PW.go tab_ok [] fun K hK => ?_
  simp only [go_sem, ↓reduceIte, reduceCtorEq, Nat.reduceBEq, Nat.reduceAdd, Nat.reduceMul, Nat.reduceSub, Nat.reduceLT, Nat.reduceLeDiff, Nat.reduceEqDiff]
  refine (row_pc hb (first := 9) (by omega) (by omega) (ops := sumOps) (by decide) h hd).use 0 rfl (Weaks.refl _) (by simp [PVs.clean, PV.clean, strs_clean]) ?_
  refine PO.go tab_ok [] ?_
  simp only [exPV_cells, exC_len, exC_all, exC_take, exC_drop, agg_exC, go_sem, ↓reduceIte, reduceCtorEq, Nat.reduceBEq, Nat.reduceAdd, Nat.reduceMul, Nat.reduceSub, Nat.reduceLT, Nat.reduceLeDiff, Nat.reduceEqDiff]
  (refine hK _ _ ?_; (try clear hK); (try clear K))
  exact PW.ret (OneM.fin (.inl rfl) (res_cell (x := exPV (rowM below 9 sumOps r).1) rfl rfl (by simp only [exPV_cells, exC_len, exC_all, exC_take, exC_drop, agg_exC, go_sem, ↓reduceIte, reduceCtorEq, Nat.reduceBEq, Nat.reduceAdd, Nat.reduceMul, Nat.reduceSub, Nat.reduceLT, Nat.reduceLeDiff, Nat.reduceEqDiff])) rfl (.refl _) (exPV_clean _))
def andOps : List Str := [[65, 78, 68]]
theorem and_fn {d : Int} {below : R → Ex × R} (hb : Fn 39 d below) : Fn 19 d (rowM below 2 andOps) := by
  obtain ⟨h1, h2, h3⟩ := rowM_fn 2 andOps hb.ok hb.dd hb.le
  refine ⟨fun r h hd => ?_, h1, h2, h3⟩
  refine PC.intro tab_ok Try.func19 rfl (by kernel_rfl) Try.ntmps19 (Nat.le_of_ble_eq_true rfl) (rs := _) (congrArg Array.toList Try.results19) ?_
  refine PW.go tab_ok [] fun K hK => ?_
  simp only [go_sem, ↓reduceIte, reduceCtorEq, Nat.reduceBEq, Nat.reduceAdd, Nat.reduceMul, Nat.reduceSub, Nat.reduceLT, Nat.reduceLeDiff, Nat.reduceEqDiff]
  (refine hK _ _ ?_; (try clear hK); (try clear K))
  refine PW.go tab_ok [] fun K hK => ?_
  simp only [go_sem, ↓reduceIte, reduceCtorEq, Nat.reduceBEq, Nat.reduceAdd, Nat.reduceMul, Nat.reduceSub, Nat.reduceLT, Nat.reduceLeDiff, Nat.reduceEqDiff]
  refine (row_pc hb (first := 2) (by omega) (by omega) (ops := andOps) (by decide) h hd).use 0 rfl (Weaks.refl _) (by simp [PVs.clean, PV.clean, strs_clean]) ?_
  refine PO.go tab_ok [] ?_
  simp only [exPV_cells, exC_len, exC_all, exC_take, exC_drop, agg_exC, go_sem, ↓reduceIte, reduceCtorEq, Nat.reduceBEq, Nat.reduceAdd, Nat.reduceMul, Nat.reduceSub, Nat.reduceLT, Nat.reduceLeDiff, Nat.reduceEqDiff]
  (refine hK _ _ ?_; (try clear hK); (try clear K))
  exact PW.ret (OneM.fin (.inl rfl) (res_cell (x := exPV (rowM below 2 andOps r).1) rfl rfl (by simp only [exPV_cells, exC_len, exC_all, exC_take, exC_drop, agg_exC, go_sem, ↓reduceIte, reduceCtorEq, Nat.reduceBEq, Nat.reduceAdd, Nat.reduceMul, Nat.reduceSub, Nat.reduceLT, Nat.reduceLeDiff, Nat.reduceEqDiff])) rfl (.refl _) (exPV_clean _))
def exprOps : List Str := [[79, 82]]
theorem expr_fn {d : Int} {below : R → Ex × R} (hb : Fn 19 d below) : Fn 10 d (rowM below 1 exprOps) := by
  obtain ⟨h1, h2, h3⟩ := rowM_fn 1 exprOps hb.ok hb.dd hb.le
  refine ⟨fun r h hd => ?_, h1, h2, h3⟩
  refine PC.intro tab_ok Try.func10 rfl (by kernel_rfl) Try.ntmps10 (Nat.le_of_ble_eq_true rfl) (rs := _) (congrArg Array.toList Try.results10) ?_
  refine PW.go tab_ok [] fun K hK => ?_
  simp only [go_sem, ↓reduceIte, reduceCtorEq, Nat.reduceBEq, Nat.reduceAdd, Nat.reduceMul, Nat.reduceSub, Nat.reduceLT, Nat.reduceLeDiff, Nat.reduceEqDiff]
  (refine hK _ _ ?_; (try clear hK); (try clear K))
  refine PW.go tab_ok [] fun K hK => ?_
  simp only [go_sem, ↓reduceIte, reduceCtorEq, Nat.reduceBEq, Nat.reduceAdd, Nat.reduceMul, Nat.reduceSub, Nat.reduceLT, Nat.reduceLeDiff, Nat.reduceEqDiff]
  refine (row_pc hb (first := 1) (by omega) (by omega) (ops := exprOps) (by decide) h hd).use 0 rfl (Weaks.refl _) (by simp [PVs.clean, PV.clean, strs_clean]) ?_
  refine PO.go tab_ok [] ?_
  simp only [exPV_cells, exC_len, exC_all, exC_take, exC_drop, agg_exC, go_sem, ↓reduceIte, reduceCtorEq, Nat.reduceBEq, Nat.reduceAdd, Nat.reduceMul, Nat.reduceSub, Nat.reduceLT, Nat.reduceLeDiff, Nat.reduceEqDiff]
  (refine hK _ _ ?_; (try clear hK); (try clear K))
  exact PW.ret (OneM.fin (.inl rfl) (res_cell (x := exPV (rowM below 1 exprOps r).1) rfl rfl (by simp only [exPV_cells, exC_len, exC_all, exC_take, exC_drop, agg_exC, go_sem, ↓reduceIte, reduceCtorEq, Nat.reduceBEq, Nat.reduceAdd, Nat.reduceMul, Nat.reduceSub, Nat.reduceLT, Nat.reduceLeDiff, Nat.reduceEqDiff])) rfl (.refl _) (exPV_clean _))
end Go.Proofs.Ytolhbjfaahcekaa
end
section
/- The parser's reader: factor, test, not. -/
set_option linter.unusedVariables false
set_option linter.unusedSimpArgs false
namespace Go.Proofs.Ytolhbjfaahcekaa
open Go

structure Sh (m : R → Ex × R) : Prop where
  ok : ∀ q : R, q.ok → (m q).2.ok
  dd : ∀ q : R, (m q).2.d = q.d
  le : ∀ q : R, (m q).2.ts.length ≤ q.ts.length
theorem Fn.sh {g : FuncId} {d : Int} {m : R → Ex × R} (h : Fn g d m) : Sh m := ⟨h.ok, h.dd, h.le⟩
theorem Sh.row {m : R → Ex × R} (h : Sh m) (first : Int) (ops : List Str) : Sh (rowM m first ops) :=
  let ⟨h1, h2, h3⟩ := rowM_fn first ops h.ok h.dd h.le
  ⟨h1, h2, h3⟩
theorem failM_ts (e : Int) (r : R) : (failM e r).ts = r.ts := by unfold failM; split <;> rfl
theorem failM_le (e : Int) (r : R) : (failM e r).ts.length ≤ r.ts.length := by rw [failM_ts]; exact Nat.le_refl _
theorem deep_ok {r : R} (h : r.ok) (n : Int) : (r.deep n).ok := h
theorem deepM_ok {r : R} (h : r.ok) : (deepM r).ok := by
  unfold deepM
  split
  · exact failM_ok (deep_ok h 1) 10
  · exact deep_ok h 1
theorem deepM_d (r : R) : (deepM r).d = r.d + 1 := by
  unfold deepM
  split
  · exact failM_d _ _
  · rfl
theorem deepM_le (r : R) : (deepM r).ts.length ≤ r.ts.length := by
  unfold deepM
  split
  · exact failM_le _ _
  · exact Nat.le_refl _
theorem withM_sh {one : R → Ex × R} (h : Sh one) : Sh (withM one) := by
  refine ⟨fun r hr => ?_, fun r => ?_, fun r => ?_⟩ <;> unfold withM <;> split
  · exact deep_ok (h.ok _ (deepM_ok hr)) (-1)
  · exact deep_ok (deepM_ok hr) (-1)
  · have h1 := h.dd (deepM r)
    have h2 := deepM_d r
    show (one (deepM r)).2.d + -1 = r.d
    omega
  · have h2 := deepM_d r
    show (deepM r).d + -1 = r.d
    omega
  · exact Nat.le_trans (h.le _) (deepM_le r)
  · exact deepM_le r
/-- within, of a method one deeper. -/
theorem within_fn {g : FuncId} {d : Int} {one : R → Ex × R} (hs : Sh one) (hp : d + 1 ≤ 10 → Fn g (d + 1) one) {r : R} (h : r.ok) (hd : r.d = d) (hd0 : 0 ≤ d) (hd1 : d ≤ 10) :
    OneC Try.prog 63 g [] r (exPV (withM one r).1) (withM one r).2 := by
  subst hd
  exact within_pc h hd0 hd1 fun _ h10 => ⟨(hp h10).pc (r.deep 1) (deep_ok h 1) rfl, hs.dd _⟩
theorem hasM_d (s : Str) (r : R) : (hasM s r).2.d = r.d := passM_d _ r
theorem hasM_le (s : Str) (r : R) : (hasM s r).2.ts.length ≤ r.ts.length := passM_le _ r
theorem mustM_d : ∀ (ls : List Str) (r : R), (mustM ls r).d = r.d
  | [], r => rfl
  | l :: ls, r => by
    unfold mustM
    rw [mustM_d ls]
    split
    · exact hasM_d l r
    · rw [failM_d, hasM_d]
theorem mustM_le : ∀ (ls : List Str) (r : R), (mustM ls r).ts.length ≤ r.ts.length
  | [], r => Nat.le_refl _
  | l :: ls, r => by
    unfold mustM
    refine Nat.le_trans (mustM_le ls _) ?_
    split
    · exact hasM_le l r
    · rw [failM_ts]; exact hasM_le l r
theorem takeM_d (k : Int) (r : R) : (takeM k r).2.d = r.d := by
  unfold takeM
  split
  · rfl
  · exact failM_d _ _
theorem takeM_le (k : Int) (r : R) : (takeM k r).2.ts.length ≤ r.ts.length := by
  unfold takeM
  split
  · exact tail_le r
  · exact failM_le _ _
theorem colM_sh : Sh colM := by
  refine ⟨fun r h => ?_, fun r => ?_, fun r => ?_⟩ <;> unfold colM <;> simp only <;> split
  · exact nameM_ok (hasM_ok (nameM_ok h))
  · exact hasM_ok (nameM_ok h)
  · simp only [nameM, takeM_d, hasM_d]
  · simp only [nameM, takeM_d, hasM_d]
  · exact Nat.le_trans (takeM_le _ _) (Nat.le_trans (hasM_le _ _) (takeM_le _ _))
  · exact Nat.le_trans (hasM_le _ _) (takeM_le _ _)
theorem litM_ok {r : R} (h : r.ok) : (litM r).2.ok := by
  obtain ⟨t, ts, h1, h2⟩ := h.cons
  have ht : (hd r).kind = t.kind := by simp [hd, h1]
  unfold litM
  split
  · exact h
  split
  · rename_i h3
    exact h2 (by rw [← ht, h3]; decide)
  split
  · rename_i h4
    exact h2 (by rw [← ht, h4]; decide)
  split
  · exact hasM_ok h
  · rename_i hn
    have hi : 0 ≤ isM [[45]] r := by omega
    have hok := isM_tail h hi
    obtain ⟨u, us, h3, h4⟩ := hok.cons
    refine h4 fun h6 => ?_
    have : (nxt r).kind = u.kind := by
      unfold nxt
      have : r.ts.tail = u :: us := h3
      rw [this]
      rfl
    exact hn (.inr (by rw [this, h6]; decide))
theorem litM_d (r : R) : (litM r).2.d = r.d := by
  unfold litM
  (repeat' split) <;> first | rfl | exact hasM_d _ _
theorem litM_le (r : R) : (litM r).2.ts.length ≤ r.ts.length := by
  unfold litM
  (repeat' split) <;> first | exact Nat.le_refl _ | exact tail_le r | exact hasM_le _ _ | exact Nat.le_trans (tail_le _) (tail_le r)

def sNOT : Str := [78, 79, 84]
def notM (nt test : R → Ex × R) (r : R) : Ex × R := if (hasM sNOT r).1 then (ofM 4 (withM nt (hasM sNOT r).2).1, (withM nt (hasM sNOT r).2).2) else test (hasM sNOT r).2
theorem notM_sh {nt test : R → Ex × R} (h : Sh nt) (ht : Sh test) : Sh (notM nt test) := by
  have hw := withM_sh h
  refine ⟨fun r hr => ?_, fun r => ?_, fun r => ?_⟩ <;> unfold notM <;> split
  · exact hw.ok _ (hasM_ok hr)
  · exact ht.ok _ (hasM_ok hr)
  · exact (hw.dd _).trans (hasM_d _ _)
  · exact (ht.dd _).trans (hasM_d _ _)
  · exact Nat.le_trans (hw.le _) (hasM_le _ _)
  · exact Nat.le_trans (ht.le _) (hasM_le _ _)
theorem not_fn {d : Int} (hd0 : 0 ≤ d) (hd1 : d ≤ 10) {nt test : R → Ex × R} (hs : Sh nt) (hp : d + 1 ≤ 10 → Fn 39 (d + 1) nt) (ht : Fn 64 d test) :
    Fn 39 d (notM nt test) := by
  obtain ⟨h1, h2, h3⟩ := notM_sh hs ht.sh
  refine ⟨fun r h hd => ?_, h1, h2, h3⟩
  refine PC.intro tab_ok Try.func39 rfl (by kernel_rfl) Try.ntmps39 (Nat.le_of_ble_eq_true rfl) (rs := _) (congrArg Array.toList Try.results39) ?_
  refine PW.go tab_ok [] fun K hK => ?_
  simp only [go_sem, ↓reduceIte, reduceCtorEq, Nat.reduceBEq, Nat.reduceAdd, Nat.reduceMul, Nat.reduceSub, Nat.reduceLT, Nat.reduceLeDiff, Nat.reduceEqDiff]
  (refine hK _ _ ?_; (try clear hK); (try clear K))
  refine PW.seq_k fun K0 hK0 => ?_
  refine PW.go tab_ok [] fun K hK => ?_
  simp only [go_sem, ↓reduceIte, reduceCtorEq, Nat.reduceBEq, Nat.reduceAdd, Nat.reduceMul, Nat.reduceSub, Nat.reduceLT, Nat.reduceLeDiff, Nat.reduceEqDiff]
  refine (has_pc (s := sNOT) h).use 0 rfl (Weaks.refl _) rfl ?_
  refine PO.go tab_ok [] ?_
  simp only [go_sem, ↓reduceIte, reduceCtorEq, Nat.reduceBEq, Nat.reduceAdd, Nat.reduceMul, Nat.reduceSub, Nat.reduceLT, Nat.reduceLeDiff, Nat.reduceEqDiff]
  (refine hK _ _ ?_; (try clear hK); (try clear K))
  refine PW.cond_split (b := (hasM sNOT r).1) rfl ?_ ?_ <;> intro hb
  · refine PW.go tab_ok [] fun K hK => ?_
    simp only [go_sem, ↓reduceIte, reduceCtorEq, Nat.reduceBEq, Nat.reduceAdd, Nat.reduceMul, Nat.reduceSub, Nat.reduceLT, Nat.reduceLeDiff, Nat.reduceEqDiff]
    refine (within_fn hs hp (hasM_ok h) (by rw [hasM_d, hd]) hd0 hd1).use 0 rfl (Weaks.refl _) rfl ?_
    refine PO.go tab_ok [] ?_
    simp only [go_sem, ↓reduceIte, reduceCtorEq, Nat.reduceBEq, Nat.reduceAdd, Nat.reduceMul, Nat.reduceSub, Nat.reduceLT, Nat.reduceLeDiff, Nat.reduceEqDiff]
    refine (of_pc 4 (withM nt (hasM sNOT r).2).1).use (Weaks.refl _) (by simp [PVs.clean, PV.clean, exPV_clean]) (exPV_clean _) ?_
    refine PO.go tab_ok [] ?_
    simp only [exPV_cells, exC_len, exC_all, exC_take, exC_drop, agg_exC, go_sem, ↓reduceIte, reduceCtorEq, Nat.reduceBEq, Nat.reduceAdd, Nat.reduceMul, Nat.reduceSub, Nat.reduceLT, Nat.reduceLeDiff, Nat.reduceEqDiff]
    (refine hK _ _ ?_; (try clear hK); (try clear K))
    refine PW.ret (OneM.fin (r' := (notM nt test r).2) (.inl rfl) (res_cell (x := exPV (ofM 4 (withM nt (hasM sNOT r).2).1)) rfl rfl (by simp only [exPV_cells, exC_len, exC_all, exC_take, exC_drop, agg_exC, go_sem, ↓reduceIte, reduceCtorEq, Nat.reduceBEq, Nat.reduceAdd, Nat.reduceMul, Nat.reduceSub, Nat.reduceLT, Nat.reduceLeDiff, Nat.reduceEqDiff])) ?_ ?_ (exPV_clean _))
    · simp [notM, hb]
    · simp [notM, hb, resPV]
  · refine PW.skip (hK0 _ _ ?_)
    refine PW.go tab_ok [] fun K hK => ?_
    simp only [go_sem, ↓reduceIte, reduceCtorEq, Nat.reduceBEq, Nat.reduceAdd, Nat.reduceMul, Nat.reduceSub, Nat.reduceLT, Nat.reduceLeDiff, Nat.reduceEqDiff]
    refine (ht.pc (hasM sNOT r).2 (hasM_ok h) (by rw [hasM_d, hd])).use 0 rfl (Weaks.refl _) rfl ?_
    refine PO.go tab_ok [] ?_
    simp only [exPV_cells, exC_len, exC_all, exC_take, exC_drop, agg_exC, go_sem, ↓reduceIte, reduceCtorEq, Nat.reduceBEq, Nat.reduceAdd, Nat.reduceMul, Nat.reduceSub, Nat.reduceLT, Nat.reduceLeDiff, Nat.reduceEqDiff]
    (refine hK _ _ ?_; (try clear hK); (try clear K))
    refine PW.ret (OneM.fin (r' := (notM nt test r).2) (.inl rfl) (res_cell (x := exPV (test (hasM sNOT r).2).1) rfl rfl (by simp only [exPV_cells, exC_len, exC_all, exC_take, exC_drop, agg_exC, go_sem, ↓reduceIte, reduceCtorEq, Nat.reduceBEq, Nat.reduceAdd, Nat.reduceMul, Nat.reduceSub, Nat.reduceLT, Nat.reduceLeDiff, Nat.reduceEqDiff])) ?_ ?_ (exPV_clean _))
    · simp [notM, hb]
    · simp [notM, hb, resPV]
end Go.Proofs.Ytolhbjfaahcekaa
end
section
/- The parser's reader: test, factor. -/
set_option linter.unusedVariables false
set_option linter.unusedSimpArgs false
namespace Go.Proofs.Ytolhbjfaahcekaa
open Go

def testOps : List Str := [[61], [60, 62], [60], [60, 61], [62], [62, 61], [73, 83]]
def testM (sum : R → Ex × R) (r : R) : Ex × R :=
  if (passM testOps (sum r).2).1 < 0 then ((sum r).1, (passM testOps (sum r).2).2)
  else if 3 + (passM testOps (sum r).2).1 ≤ 8 then (opM (3 + (passM testOps (sum r).2).1) (sum r).1 (sum (passM testOps (sum r).2).2).1, (sum (passM testOps (sum r).2).2).2)
  else (if (hasM sNOT (passM testOps (sum r).2).2).1 then ofM 4 (ofM 6 (sum r).1) else ofM 6 (sum r).1, mustM [sNULL] (hasM sNOT (passM testOps (sum r).2).2).2)
theorem testM_sh {sum : R → Ex × R} (h : Sh sum) : Sh (testM sum) := by
  refine ⟨fun r hr => ?_, fun r => ?_, fun r => ?_⟩ <;> unfold testM <;> (repeat' split)
  all_goals first
    | exact passM_ok (h.ok _ hr)
    | exact h.ok _ (passM_ok (h.ok _ hr))
    | exact mustM_ok (hasM_ok (passM_ok (h.ok _ hr)))
    | exact (passM_d _ _).trans (h.dd _)
    | exact (h.dd _).trans ((passM_d _ _).trans (h.dd _))
    | exact (mustM_d _ _).trans ((hasM_d _ _).trans ((passM_d _ _).trans (h.dd _)))
    | exact Nat.le_trans (passM_le _ _) (h.le _)
    | exact Nat.le_trans (h.le _) (Nat.le_trans (passM_le _ _) (h.le _))
    | exact Nat.le_trans (mustM_le _ _) (Nat.le_trans (hasM_le _ _) (Nat.le_trans (passM_le _ _) (h.le _)))
theorem test_fn {d : Int} {sum : R → Ex × R} (hs : Fn 71 d sum) : Fn 64 d (testM sum) := by
  obtain ⟨h1, h2, h3⟩ := testM_sh hs.sh
  refine ⟨fun r h hd => ?_, h1, h2, h3⟩
  refine PC.intro tab_ok Try.func64 rfl (by kernel_rfl) Try.ntmps64 (Nat.le_of_ble_eq_true rfl) (rs := _) (congrArg Array.toList Try.results64) ?_
  refine PW.go tab_ok [] fun K hK => ?_
  simp only [go_sem, ↓reduceIte, reduceCtorEq, Nat.reduceBEq, Nat.reduceAdd, Nat.reduceMul, Nat.reduceSub, Nat.reduceLT, Nat.reduceLeDiff, Nat.reduceEqDiff]
  (refine hK _ _ ?_; (try clear hK); (try clear K))
  refine PW.go tab_ok [] fun K hK => ?_
  simp only [go_sem, ↓reduceIte, reduceCtorEq, Nat.reduceBEq, Nat.reduceAdd, Nat.reduceMul, Nat.reduceSub, Nat.reduceLT, Nat.reduceLeDiff, Nat.reduceEqDiff]
  refine (hs.pc r h hd).use 0 rfl (Weaks.refl _) rfl ?_
  refine PO.go tab_ok [] ?_
  simp only [exPV_cells, exC_len, exC_all, go_sem, ↓reduceIte, reduceCtorEq, Nat.reduceBEq, Nat.reduceAdd, Nat.reduceMul, Nat.reduceSub, Nat.reduceLT, Nat.reduceLeDiff, Nat.reduceEqDiff]
  (refine hK _ _ ?_; (try clear hK); (try clear K))
  refine PW.go tab_ok [] fun K hK => ?_
  simp only [go_sem, ↓reduceIte, reduceCtorEq, Nat.reduceBEq, Nat.reduceAdd, Nat.reduceMul, Nat.reduceSub, Nat.reduceLT, Nat.reduceLeDiff, Nat.reduceEqDiff]
  refine (pass_pc (ls := testOps) (by decide) (hs.ok r h)).use 0 rfl (Weaks.refl _) (strs_clean1 testOps) ?_
  refine PO.go tab_ok [] ?_
  simp only [go_sem, ↓reduceIte, reduceCtorEq, Nat.reduceBEq, Nat.reduceAdd, Nat.reduceMul, Nat.reduceSub, Nat.reduceLT, Nat.reduceLeDiff, Nat.reduceEqDiff]
  (refine hK _ _ ?_; (try clear hK); (try clear K))
  have hlen : (passM testOps (sum r).2).1 < 7 := passM_lt_len testOps (sum r).2
  refine PW.seq_k fun K0 hK0 => ?_
  refine PW.block ?_
  refine PW.go tab_ok [] fun K hK => ?_
  simp only [go_sem, ↓reduceIte, reduceCtorEq, Nat.reduceBEq, Nat.reduceAdd, Nat.reduceMul, Nat.reduceSub, Nat.reduceLT, Nat.reduceLeDiff, Nat.reduceEqDiff]
  (refine hK _ _ ?_; (try clear hK); (try clear K))
  refine PW.cond_split (b := decide ((passM testOps (sum r).2).1 < 0)) rfl ?_ ?_ <;> intro hb
  · have hk : (passM testOps (sum r).2).1 < 0 := by simpa using hb
    refine PW.go tab_ok [] fun K hK => ?_
    simp only [exPV_cells, exC_len, exC_all, exC_take, exC_drop, agg_exC, go_sem, ↓reduceIte, reduceCtorEq, Nat.reduceBEq, Nat.reduceAdd, Nat.reduceMul, Nat.reduceSub, Nat.reduceLT, Nat.reduceLeDiff, Nat.reduceEqDiff]
    (refine hK _ _ ?_; (try clear hK); (try clear K))
    refine PW.ret (OneM.fin (r' := (testM sum r).2) (.inl rfl) (res_cell (x := exPV (sum r).1) rfl rfl (by simp only [exPV_cells, exC_len, exC_all, exC_take, exC_drop, agg_exC, go_sem, ↓reduceIte, reduceCtorEq, Nat.reduceBEq, Nat.reduceAdd, Nat.reduceMul, Nat.reduceSub, Nat.reduceLT, Nat.reduceLeDiff, Nat.reduceEqDiff])) ?_ ?_ (exPV_clean _))
    · simp [testM, hk]
    · simp [testM, hk, resPV]

  have hk : ¬ (passM testOps (sum r).2).1 < 0 := by simpa using hb
  have hw : IntKind.i64.wrap (3 + (passM testOps (sum r).2).1) = 3 + (passM testOps (sum r).2).1 := wrap_small (by omega) (by omega)
  refine PW.go tab_ok [] fun K hK => ?_
  simp only [hw, go_sem, ↓reduceIte, reduceCtorEq, Nat.reduceBEq, Nat.reduceAdd, Nat.reduceMul, Nat.reduceSub, Nat.reduceLT, Nat.reduceLeDiff, Nat.reduceEqDiff]
  (refine hK _ _ ?_; (try clear hK); (try clear K))
  refine PW.cond_split (b := decide (3 + (passM testOps (sum r).2).1 ≤ 8)) rfl ?_ ?_ <;> intro hb2
  · have hk2 : 3 + (passM testOps (sum r).2).1 ≤ 8 := by simpa using hb2
    refine PW.go tab_ok [] fun K hK => ?_
    simp only [go_sem, ↓reduceIte, reduceCtorEq, Nat.reduceBEq, Nat.reduceAdd, Nat.reduceMul, Nat.reduceSub, Nat.reduceLT, Nat.reduceLeDiff, Nat.reduceEqDiff]
    refine (hs.pc (passM testOps (sum r).2).2 (passM_ok (hs.ok r h)) (by rw [passM_d, hs.dd, hd])).use 0 rfl (Weaks.refl _) rfl ?_
    refine PO.go tab_ok [] ?_
    simp only [exPV_cells, exC_len, exC_all, go_sem, ↓reduceIte, reduceCtorEq, Nat.reduceBEq, Nat.reduceAdd, Nat.reduceMul, Nat.reduceSub, Nat.reduceLT, Nat.reduceLeDiff, Nat.reduceEqDiff]
    (refine hK _ _ ?_; (try clear hK); (try clear K))
    refine PW.go tab_ok [] fun K hK => ?_
    simp only [hw, exPV_cells, exC_len, exC_all, exC_take, exC_drop, agg_exC, go_sem, ↓reduceIte, reduceCtorEq, Nat.reduceBEq, Nat.reduceAdd, Nat.reduceMul, Nat.reduceSub, Nat.reduceLT, Nat.reduceLeDiff, Nat.reduceEqDiff]
    (refine hK _ _ ?_; (try clear hK); (try clear K))
    refine PW.ret (OneM.fin (r' := (testM sum r).2) (x := exPV (testM sum r).1) (.inl rfl) rfl ?_ ?_ (exPV_clean _))
    · simp [testM, hk, hk2]
    · simp only [testM, if_neg hk, if_pos hk2]
      exact .refl _
  have hk2 : ¬ 3 + (passM testOps (sum r).2).1 ≤ 8 := by simpa using hb2
  refine PW.skip (hK0 _ _ ?_)
  clear hK0 K0
  have hok3 : (hasM sNOT (passM testOps (sum r).2).2).2.ok := hasM_ok (passM_ok (hs.ok r h))
  refine PW.go tab_ok [] fun K hK => ?_
  simp only [go_sem, ↓reduceIte, reduceCtorEq, Nat.reduceBEq, Nat.reduceAdd, Nat.reduceMul, Nat.reduceSub, Nat.reduceLT, Nat.reduceLeDiff, Nat.reduceEqDiff]
  refine (has_pc (s := sNOT) (passM_ok (hs.ok r h))).use 0 rfl (Weaks.refl _) rfl ?_
  refine PO.go tab_ok [] ?_
  simp only [go_sem, ↓reduceIte, reduceCtorEq, Nat.reduceBEq, Nat.reduceAdd, Nat.reduceMul, Nat.reduceSub, Nat.reduceLT, Nat.reduceLeDiff, Nat.reduceEqDiff]
  (refine hK _ _ ?_; (try clear hK); (try clear K))
  refine PW.go tab_ok [] fun K hK => ?_
  simp only [go_sem, ↓reduceIte, reduceCtorEq, Nat.reduceBEq, Nat.reduceAdd, Nat.reduceMul, Nat.reduceSub, Nat.reduceLT, Nat.reduceLeDiff, Nat.reduceEqDiff]
  refine (must_pc (ls := [sNULL]) (by decide) hok3).use 0 rfl (Weaks.refl _) (strs_clean1 [sNULL]) ?_
  refine PO.go tab_ok [] ?_
  simp only [go_sem, ↓reduceIte, reduceCtorEq, Nat.reduceBEq, Nat.reduceAdd, Nat.reduceMul, Nat.reduceSub, Nat.reduceLT, Nat.reduceLeDiff, Nat.reduceEqDiff]
  (refine hK _ _ ?_; (try clear hK); (try clear K))
  refine PW.seq_k fun K0 hK0 => ?_
  refine PW.go tab_ok [] fun K hK => ?_
  simp only [exPV_cells, exC_len, exC_all, exC_take, exC_drop, agg_exC, go_sem, ↓reduceIte, reduceCtorEq, Nat.reduceBEq, Nat.reduceAdd, Nat.reduceMul, Nat.reduceSub, Nat.reduceLT, Nat.reduceLeDiff, Nat.reduceEqDiff]
  refine (of_pc 6 (sum r).1).use (Weaks.refl _) (by simp [PVs.clean, PV.clean, exPV_clean]) (exPV_clean _) ?_
  refine PO.go tab_ok [] ?_
  simp only [exPV_cells, exC_len, exC_all, exC_take, exC_drop, agg_exC, go_sem, ↓reduceIte, reduceCtorEq, Nat.reduceBEq, Nat.reduceAdd, Nat.reduceMul, Nat.reduceSub, Nat.reduceLT, Nat.reduceLeDiff, Nat.reduceEqDiff]
  (refine hK _ _ ?_; (try clear hK); (try clear K))
  refine PW.go tab_ok [] fun K hK => ?_
  simp only [go_sem, ↓reduceIte, reduceCtorEq, Nat.reduceBEq, Nat.reduceAdd, Nat.reduceMul, Nat.reduceSub, Nat.reduceLT, Nat.reduceLeDiff, Nat.reduceEqDiff]
  (refine hK _ _ ?_; (try clear hK); (try clear K))
  refine PW.cond_split (b := (hasM sNOT (passM testOps (sum r).2).2).1) rfl ?_ ?_ <;> intro hb3
  · refine PW.goL tab_ok [] fun K hK => ?_
    simp only [exPV_cells, exC_len, exC_all, exC_take, exC_drop, agg_exC, go_sem, ↓reduceIte, reduceCtorEq, Nat.reduceBEq, Nat.reduceAdd, Nat.reduceMul, Nat.reduceSub, Nat.reduceLT, Nat.reduceLeDiff, Nat.reduceEqDiff]
    refine (of_pc 4 (ofM 6 (sum r).1)).use (Weaks.refl _) (by simp [PVs.clean, PV.clean, exPV_clean]) (exPV_clean _) ?_
    refine PO.go tab_ok [] ?_
    simp only [exPV_cells, exC_len, exC_all, exC_take, exC_drop, agg_exC, go_sem, ↓reduceIte, reduceCtorEq, Nat.reduceBEq, Nat.reduceAdd, Nat.reduceMul, Nat.reduceSub, Nat.reduceLT, Nat.reduceLeDiff, Nat.reduceEqDiff]
    (refine hK _ _ ?_; (try clear hK); (try clear K))
    refine hK0 _ _ ?_
    refine PW.go tab_ok [] fun K hK => ?_
    simp only [exPV_cells, exC_len, exC_all, exC_take, exC_drop, agg_exC, go_sem, ↓reduceIte, reduceCtorEq, Nat.reduceBEq, Nat.reduceAdd, Nat.reduceMul, Nat.reduceSub, Nat.reduceLT, Nat.reduceLeDiff, Nat.reduceEqDiff]
    (refine hK _ _ ?_; (try clear hK); (try clear K))
    refine PW.ret (OneM.fin (r' := (testM sum r).2) (.inl rfl) (res_cell (x := exPV (ofM 4 (ofM 6 (sum r).1))) rfl rfl (by simp only [exPV_cells, exC_len, exC_all, exC_take, exC_drop, agg_exC, go_sem, ↓reduceIte, reduceCtorEq, Nat.reduceBEq, Nat.reduceAdd, Nat.reduceMul, Nat.reduceSub, Nat.reduceLT, Nat.reduceLeDiff, Nat.reduceEqDiff])) ?_ ?_ (exPV_clean _))
    · simp [testM, hk, hk2, hb3]
    · simp [testM, hk, hk2, hb3, resPV]

  · refine PW.skip (hK0 _ _ ?_)
    refine PW.go tab_ok [] fun K hK => ?_
    simp only [exPV_cells, exC_len, exC_all, exC_take, exC_drop, agg_exC, go_sem, ↓reduceIte, reduceCtorEq, Nat.reduceBEq, Nat.reduceAdd, Nat.reduceMul, Nat.reduceSub, Nat.reduceLT, Nat.reduceLeDiff, Nat.reduceEqDiff]
    (refine hK _ _ ?_; (try clear hK); (try clear K))
    refine PW.ret (OneM.fin (r' := (testM sum r).2) (.inl rfl) (res_cell (x := exPV (ofM 6 (sum r).1)) rfl rfl (by simp only [exPV_cells, exC_len, exC_all, exC_take, exC_drop, agg_exC, go_sem, ↓reduceIte, reduceCtorEq, Nat.reduceBEq, Nat.reduceAdd, Nat.reduceMul, Nat.reduceSub, Nat.reduceLT, Nat.reduceLeDiff, Nat.reduceEqDiff])) ?_ ?_ (exPV_clean _))
    · simp [testM, hk, hk2, hb3]
    · simp [testM, hk, hk2, hb3, resPV]

end Go.Proofs.Ytolhbjfaahcekaa
end
section
/- The parser's reader: factor; all levels. -/
set_option linter.unusedVariables false
set_option linter.unusedSimpArgs false
namespace Go.Proofs.Ytolhbjfaahcekaa
open Go

def valM (v : Vl) : Ex := .mk 1 0 [] [] v []
def facOps : List Str := [[45], [40]]
def facM (fac ex : R → Ex × R) (r : R) : Ex × R :=
  if (litM r).1.2 then (valM (litM r).1.1, (litM r).2)
  else if (passM facOps (litM r).2).1 = 0 then (ofM 5 (withM fac (passM facOps (litM r).2).2).1, (withM fac (passM facOps (litM r).2).2).2)
  else if (passM facOps (litM r).2).1 = 1 then ((withM ex (passM facOps (litM r).2).2).1, mustM [[41]] (withM ex (passM facOps (litM r).2).2).2)
  else colM (passM facOps (litM r).2).2
theorem facM_sh {fac ex : R → Ex × R} (hf : Sh fac) (he : Sh ex) : Sh (facM fac ex) := by
  have wf := withM_sh hf
  have we := withM_sh he
  refine ⟨fun r hr => ?_, fun r => ?_, fun r => ?_⟩ <;> unfold facM <;> (repeat' split)
  all_goals first
    | exact litM_ok hr
    | exact wf.ok _ (passM_ok (litM_ok hr))
    | exact mustM_ok (we.ok _ (passM_ok (litM_ok hr)))
    | exact colM_sh.ok _ (passM_ok (litM_ok hr))
    | exact litM_d r
    | exact (wf.dd _).trans ((passM_d _ _).trans (litM_d r))
    | exact (mustM_d _ _).trans ((we.dd _).trans ((passM_d _ _).trans (litM_d r)))
    | exact (colM_sh.dd _).trans ((passM_d _ _).trans (litM_d r))
    | exact litM_le r
    | exact Nat.le_trans (wf.le _) (Nat.le_trans (passM_le _ _) (litM_le r))
    | exact Nat.le_trans (mustM_le _ _) (Nat.le_trans (we.le _) (Nat.le_trans (passM_le _ _) (litM_le r)))
    | exact Nat.le_trans (colM_sh.le _) (Nat.le_trans (passM_le _ _) (litM_le r))
theorem factor_fn {d : Int} (hd0 : 0 ≤ d) (hd1 : d ≤ 10) {fac ex : R → Ex × R} (sf : Sh fac) (se : Sh ex) (pf : d + 1 ≤ 10 → Fn 75 (d + 1) fac) (pe : d + 1 ≤ 10 → Fn 10 (d + 1) ex) :
    Fn 75 d (facM fac ex) := by
  obtain ⟨h1, h2, h3⟩ := facM_sh sf se
  refine ⟨fun r h hd => ?_, h1, h2, h3⟩
  have hokl := litM_ok h
  have hokp : (passM facOps (litM r).2).2.ok := passM_ok hokl
  have hdp : (passM facOps (litM r).2).2.d = d := by rw [passM_d, litM_d, hd]
  refine PC.intro tab_ok Try.func75 rfl (by kernel_rfl) Try.ntmps75 (Nat.le_of_ble_eq_true rfl) (rs := _) (congrArg Array.toList Try.results75) ?_
  refine PW.go tab_ok [] fun K hK => ?_
  simp only [go_sem, ↓reduceIte, reduceCtorEq, Nat.reduceBEq, Nat.reduceAdd, Nat.reduceMul, Nat.reduceSub, Nat.reduceLT, Nat.reduceLeDiff, Nat.reduceEqDiff]
  (refine hK _ _ ?_; (try clear hK); (try clear K))
  refine PW.seq_k fun K0 hK0 => ?_
  refine PW.go tab_ok [] fun K hK => ?_
  simp only [go_sem, ↓reduceIte, reduceCtorEq, Nat.reduceBEq, Nat.reduceAdd, Nat.reduceMul, Nat.reduceSub, Nat.reduceLT, Nat.reduceLeDiff, Nat.reduceEqDiff]
  refine (literal_pc h).use 0 rfl (Weaks.refl _) rfl ?_
  refine PO.go tab_ok [] ?_
  simp only [vC, go_sem, ↓reduceIte, reduceCtorEq, Nat.reduceBEq, Nat.reduceAdd, Nat.reduceMul, Nat.reduceSub, Nat.reduceLT, Nat.reduceLeDiff, Nat.reduceEqDiff]
  (refine hK _ _ ?_; (try clear hK); (try clear K))
  refine PW.go tab_ok [] fun K hK => ?_
  simp only [go_sem, ↓reduceIte, reduceCtorEq, Nat.reduceBEq, Nat.reduceAdd, Nat.reduceMul, Nat.reduceSub, Nat.reduceLT, Nat.reduceLeDiff, Nat.reduceEqDiff]
  (refine hK _ _ ?_; (try clear hK); (try clear K))
  refine PW.cond_split (b := (litM r).1.2) rfl ?_ ?_ <;> intro hb
  · refine PW.go tab_ok [] fun K hK => ?_
    simp only [go_sem, ↓reduceIte, reduceCtorEq, Nat.reduceBEq, Nat.reduceAdd, Nat.reduceMul, Nat.reduceSub, Nat.reduceLT, Nat.reduceLeDiff, Nat.reduceEqDiff]
    (refine hK _ _ ?_; (try clear hK); (try clear K))
    refine PW.ret (OneM.fin (r' := (facM fac ex r).2) (x := exPV (facM fac ex r).1) (.inl rfl) rfl ?_ ?_ (exPV_clean _))
    · simp only [facM, if_pos hb]
    · simp only [facM, if_pos hb]
      exact ex_weak _ _ _ _ _ _ _
  refine PW.skip (hK0 _ _ ?_)
  clear hK0 K0
  have hb' : ¬ (litM r).1.2 = true := by simp [hb]
  refine PW.seq_k fun K0 hK0 => ?_
  refine PW.go tab_ok [] fun K hK => ?_
  simp only [go_sem, ↓reduceIte, reduceCtorEq, Nat.reduceBEq, Nat.reduceAdd, Nat.reduceMul, Nat.reduceSub, Nat.reduceLT, Nat.reduceLeDiff, Nat.reduceEqDiff]
  refine (pass_pc (ls := facOps) (by decide) hokl).use 0 rfl (Weaks.refl _) (strs_clean1 facOps) ?_
  refine PO.go tab_ok [] ?_
  simp only [go_sem, ↓reduceIte, reduceCtorEq, Nat.reduceBEq, Nat.reduceAdd, Nat.reduceMul, Nat.reduceSub, Nat.reduceLT, Nat.reduceLeDiff, Nat.reduceEqDiff]
  (refine hK _ _ ?_; (try clear hK); (try clear K))
  refine PW.block ?_
  refine PW.go tab_ok [] fun K hK => ?_
  simp only [go_sem, ↓reduceIte, reduceCtorEq, Nat.reduceBEq, Nat.reduceAdd, Nat.reduceMul, Nat.reduceSub, Nat.reduceLT, Nat.reduceLeDiff, Nat.reduceEqDiff]
  (refine hK _ _ ?_; (try clear hK); (try clear K))
  refine PW.cond_split (b := (passM facOps (litM r).2).1 == 0) rfl ?_ ?_ <;> intro hb1
  · have hk : (passM facOps (litM r).2).1 = 0 := by simpa using hb1
    refine PW.go tab_ok [] fun K hK => ?_
    simp only [go_sem, ↓reduceIte, reduceCtorEq, Nat.reduceBEq, Nat.reduceAdd, Nat.reduceMul, Nat.reduceSub, Nat.reduceLT, Nat.reduceLeDiff, Nat.reduceEqDiff]
    refine (within_fn sf pf hokp hdp hd0 hd1).use 0 rfl (Weaks.refl _) rfl ?_
    refine PO.go tab_ok [] ?_
    simp only [go_sem, ↓reduceIte, reduceCtorEq, Nat.reduceBEq, Nat.reduceAdd, Nat.reduceMul, Nat.reduceSub, Nat.reduceLT, Nat.reduceLeDiff, Nat.reduceEqDiff]
    refine (of_pc 5 (withM fac (passM facOps (litM r).2).2).1).use (Weaks.refl _) (by simp [PVs.clean, PV.clean, exPV_clean]) (exPV_clean _) ?_
    refine PO.go tab_ok [] ?_
    simp only [exPV_cells, exC_len, exC_all, exC_take, exC_drop, agg_exC, go_sem, ↓reduceIte, reduceCtorEq, Nat.reduceBEq, Nat.reduceAdd, Nat.reduceMul, Nat.reduceSub, Nat.reduceLT, Nat.reduceLeDiff, Nat.reduceEqDiff]
    (refine hK _ _ ?_; (try clear hK); (try clear K))
    refine PW.ret (OneM.fin (r' := (facM fac ex r).2) (.inl rfl) (res_cell (x := exPV (ofM 5 (withM fac (passM facOps (litM r).2).2).1)) rfl rfl (by simp only [exPV_cells, exC_len, exC_all, exC_take, exC_drop, agg_exC, go_sem, ↓reduceIte, reduceCtorEq, Nat.reduceBEq, Nat.reduceAdd, Nat.reduceMul, Nat.reduceSub, Nat.reduceLT, Nat.reduceLeDiff, Nat.reduceEqDiff])) ?_ ?_ (exPV_clean _))
    · simp only [facM, if_neg hb', if_pos hk]
    · simp only [facM, if_neg hb', if_pos hk]
      exact .refl _
  have hk : ¬ (passM facOps (litM r).2).1 = 0 := by simpa using hb1
  refine PW.go tab_ok [] fun K hK => ?_
  simp only [go_sem, ↓reduceIte, reduceCtorEq, Nat.reduceBEq, Nat.reduceAdd, Nat.reduceMul, Nat.reduceSub, Nat.reduceLT, Nat.reduceLeDiff, Nat.reduceEqDiff]
  (refine hK _ _ ?_; (try clear hK); (try clear K))
  refine PW.cond_split (b := (passM facOps (litM r).2).1 == 1) rfl ?_ ?_ <;> intro hb2
  · have hk2 : (passM facOps (litM r).2).1 = 1 := by simpa using hb2
    refine PW.go tab_ok [] fun K hK => ?_
    simp only [go_sem, ↓reduceIte, reduceCtorEq, Nat.reduceBEq, Nat.reduceAdd, Nat.reduceMul, Nat.reduceSub, Nat.reduceLT, Nat.reduceLeDiff, Nat.reduceEqDiff]
    refine (within_fn se pe hokp hdp hd0 hd1).use 0 rfl (Weaks.refl _) rfl ?_
    refine PO.go tab_ok [] ?_
    simp only [exPV_cells, exC_len, exC_all, exC_take, exC_drop, agg_exC, go_sem, ↓reduceIte, reduceCtorEq, Nat.reduceBEq, Nat.reduceAdd, Nat.reduceMul, Nat.reduceSub, Nat.reduceLT, Nat.reduceLeDiff, Nat.reduceEqDiff]
    (refine hK _ _ ?_; (try clear hK); (try clear K))
    refine PW.go tab_ok [] fun K hK => ?_
    simp only [go_sem, ↓reduceIte, reduceCtorEq, Nat.reduceBEq, Nat.reduceAdd, Nat.reduceMul, Nat.reduceSub, Nat.reduceLT, Nat.reduceLeDiff, Nat.reduceEqDiff]
    refine (must_pc (ls := [[41]]) (by decide) ((withM_sh se).ok _ hokp)).use 0 rfl (Weaks.refl _) (strs_clean1 [[41]]) ?_
    refine PO.go tab_ok [] ?_
    simp only [go_sem, ↓reduceIte, reduceCtorEq, Nat.reduceBEq, Nat.reduceAdd, Nat.reduceMul, Nat.reduceSub, Nat.reduceLT, Nat.reduceLeDiff, Nat.reduceEqDiff]
    (refine hK _ _ ?_; (try clear hK); (try clear K))
    refine PW.go tab_ok [] fun K hK => ?_
    simp only [exPV_cells, exC_len, exC_all, exC_take, exC_drop, agg_exC, go_sem, ↓reduceIte, reduceCtorEq, Nat.reduceBEq, Nat.reduceAdd, Nat.reduceMul, Nat.reduceSub, Nat.reduceLT, Nat.reduceLeDiff, Nat.reduceEqDiff]
    (refine hK _ _ ?_; (try clear hK); (try clear K))
    refine PW.ret (OneM.fin (r' := (facM fac ex r).2) (.inl rfl) (res_cell (x := exPV (withM ex (passM facOps (litM r).2).2).1) rfl rfl (by simp only [exPV_cells, exC_len, exC_all, exC_take, exC_drop, agg_exC, go_sem, ↓reduceIte, reduceCtorEq, Nat.reduceBEq, Nat.reduceAdd, Nat.reduceMul, Nat.reduceSub, Nat.reduceLT, Nat.reduceLeDiff, Nat.reduceEqDiff])) ?_ ?_ (exPV_clean _))
    · simp only [facM, if_neg hb', if_neg hk, if_pos hk2]
    · simp only [facM, if_neg hb', if_neg hk, if_pos hk2]
      exact .refl _
  have hk2 : ¬ (passM facOps (litM r).2).1 = 1 := by simpa using hb2
  refine PW.skip (hK0 _ _ ?_)
  clear hK0 K0
  refine PW.go tab_ok [] fun K hK => ?_
  simp only [go_sem, ↓reduceIte, reduceCtorEq, Nat.reduceBEq, Nat.reduceAdd, Nat.reduceMul, Nat.reduceSub, Nat.reduceLT, Nat.reduceLeDiff, Nat.reduceEqDiff]
  refine (column_pc hokp).use 0 rfl (Weaks.refl _) rfl ?_
  refine PO.go tab_ok [] ?_
  simp only [exPV_cells, exC_len, exC_all, exC_take, exC_drop, agg_exC, go_sem, ↓reduceIte, reduceCtorEq, Nat.reduceBEq, Nat.reduceAdd, Nat.reduceMul, Nat.reduceSub, Nat.reduceLT, Nat.reduceLeDiff, Nat.reduceEqDiff]
  (refine hK _ _ ?_; (try clear hK); (try clear K))
  refine PW.ret (OneM.fin (r' := (facM fac ex r).2) (.inl rfl) (res_cell (x := exPV (colM (passM facOps (litM r).2).2).1) rfl rfl (by simp only [exPV_cells, exC_len, exC_all, exC_take, exC_drop, agg_exC, go_sem, ↓reduceIte, reduceCtorEq, Nat.reduceBEq, Nat.reduceAdd, Nat.reduceMul, Nat.reduceSub, Nat.reduceLT, Nat.reduceLeDiff, Nat.reduceEqDiff])) ?_ ?_ (exPV_clean _))
  · simp only [facM, if_neg hb', if_neg hk, if_neg hk2]
  · simp only [facM, if_neg hb', if_neg hk, if_neg hk2]
    exact .refl _

/-- The methods, at a depth: so many more levels are let in. -/
structure Lv where
  fac : R → Ex × R
  nt : R → Ex × R
  ex : R → Ex × R
def mkLv (lo : Lv) : Lv :=
  let f := facM lo.fac lo.ex
  let n := notM lo.nt (testM (rowM (rowM f 11 termOps) 9 sumOps))
  ⟨f, n, rowM (rowM n 2 andOps) 1 exprOps⟩
def lv : Nat → Lv
  | 0 => mkLv ⟨fun r => (ex0, r), fun r => (ex0, r), fun r => (ex0, r)⟩
  | n + 1 => mkLv (lv n)
structure Lvs (l : Lv) : Prop where
  fac : Sh l.fac
  nt : Sh l.nt
  ex : Sh l.ex
theorem mkLv_sh {l : Lv} (h : Lvs l) : Lvs (mkLv l) := by
  have hf := facM_sh h.fac h.ex
  have hn := notM_sh h.nt (testM_sh ((hf.row 11 termOps).row 9 sumOps))
  exact ⟨hf, hn, (hn.row 2 andOps).row 1 exprOps⟩
theorem lv_sh : ∀ n, Lvs (lv n)
  | 0 => mkLv_sh ⟨⟨fun _ h => h, fun _ => rfl, fun _ => Nat.le_refl _⟩, ⟨fun _ h => h, fun _ => rfl, fun _ => Nat.le_refl _⟩, ⟨fun _ h => h, fun _ => rfl, fun _ => Nat.le_refl _⟩⟩
  | n + 1 => mkLv_sh (lv_sh n)
structure LvFn (d : Int) (l : Lv) : Prop where
  fac : Fn 75 d l.fac
  nt : Fn 39 d l.nt
  ex : Fn 10 d l.ex
theorem mkLv_fn {d : Int} (hd0 : 0 ≤ d) (hd1 : d ≤ 10) {l : Lv} (hs : Lvs l) (hp : d + 1 ≤ 10 → LvFn (d + 1) l) : LvFn d (mkLv l) := by
  have hf := factor_fn hd0 hd1 hs.fac hs.ex (fun h => (hp h).fac) (fun h => (hp h).ex)
  have hn := not_fn hd0 hd1 hs.nt (fun h => (hp h).nt) (test_fn (sum_fn (term_fn hf)))
  exact ⟨hf, hn, expr_fn (and_fn hn)⟩
theorem lv_fn : ∀ (n : Nat), n ≤ 10 → LvFn (10 - (n : Int)) (lv n)
  | 0, _ => mkLv_fn (by omega) (by omega) ⟨⟨fun _ h => h, fun _ => rfl, fun _ => Nat.le_refl _⟩, ⟨fun _ h => h, fun _ => rfl, fun _ => Nat.le_refl _⟩, ⟨fun _ h => h, fun _ => rfl, fun _ => Nat.le_refl _⟩⟩ (fun h => by omega)
  | n + 1, hn => mkLv_fn (by omega) (by omega) (lv_sh n) fun _ => by
    have := lv_fn n (by omega)
    rw [show (10 : Int) - ((n + 1 : Nat) : Int) + 1 = 10 - (n : Int) from by omega]
    exact this
/-- An expression, from no depth. -/
def exprM : R → Ex × R := (lv 10).ex
theorem expr_pc {r : R} (h : r.ok) (hd : r.d = 0) : OneM Try.prog 10 [] r (exPV (exprM r).1) (exprM r).2 := (lv_fn 10 (by omega)).ex.pc r h hd
theorem exprM_sh : Sh exprM := (lv_sh 10).ex
end Go.Proofs.Ytolhbjfaahcekaa
end
section
/- parse.One, over what the lexer gives. -/
set_option linter.unusedVariables false
set_option linter.unusedSimpArgs false
namespace Go.Proofs.Ytolhbjfaahcekaa
open Go

theorem Weak.tup {xs ys : List PV} (h : Weaks xs ys) : Weak (.tup xs) (.tup ys) := fun G v hr => by
  cases hr with
  | tup _ _ h' => exact .tup _ _ (h.reps h')
theorem Pure.finw {tt : TTab} {rs : List ResultVar} {x : PV} {env : Env} {st : St} {xs : List PV} {e : Exit} (he : e = .ret ∨ e = .normal) (hr : resAll tt env st rs = some xs) (hR : Weak (resPV xs) x) (hx : PV.clean 0 0 x = true) :
    Ends tt rs ⟨[], []⟩ (fun r st' => r = x ∧ st' = ⟨[], []⟩) e env st :=
  ⟨he, xs, x, ⟨[], []⟩, hr, hR, ⟨by simp, by simp, by simp⟩, by simp, by simp, hx, rfl, rfl⟩
theorem res_cell2 {tt : TTab} {env : Env} {st : St} {b b2 : Nat} {t t2 : TypeId} {p p2 x x2 : PV} {y y2 : TyI} (h1 : eget env b = some p) (h2 : tt t = some y) (h3 : ldPV y st p = some x) (h4 : eget env b2 = some p2) (h5 : tt t2 = some y2) (h6 : ldPV y2 st p2 = some x2) :
    resAll tt env st [.cell b t, .cell b2 t2] = some [x, x2] := by
  simp [resAll, resOne, h1, h2, h3, h4, h5, h6]
/-- A fault: its code, its place. -/
structure Ft where
  c : Int
  a : Int
def ftPV (f : Ft) : PV := .agg [.int .i64 f.c, .int .i64 f.a]
def toksPV (l : List Tok) : PV := .list 4 (l.map tokPV) .no
theorem toks_clean (l : List Tok) : PV.clean 0 0 (toksPV l) = true := by
  simp only [toksPV, PV.clean, clean_map (tok_clean 0 0)]; rfl
def oneM (l : List Tok) (f : Ft) : Ex × Ft :=
  if f.c ≠ 0 then (ex0, f)
  else if (endM (exprM ⟨l, 0, 0, 0⟩).2).c ≠ 0 then (ex0, ⟨(endM (exprM ⟨l, 0, 0, 0⟩).2).c, (endM (exprM ⟨l, 0, 0, 0⟩).2).a⟩)
  else ((exprM ⟨l, 0, 0, 0⟩).1, ⟨0, 0⟩)
theorem endM_ok {r : R} (h : r.ok) : (endM r).ok := by
  unfold endM
  split
  · exact failM_ok h 4
  · exact h
theorem one_pc {s : Str} {l : List Tok} {f : Ft} (hlex : Pure Try.prog 9 [.str s] (.tup [toksPV l, ftPV f])) (hl : f.c = 0 → R.ok ⟨l, 0, 0, 0⟩) :
    Pure Try.prog 6 [.str s] (.tup [exPV (oneM l f).1, ftPV (oneM l f).2]) := by
  refine PC.intro tab_ok Try.func6 rfl (by kernel_rfl) Try.ntmps6 (Nat.le_of_ble_eq_true rfl) (rs := _) (congrArg Array.toList Try.results6) ?_
  refine PW.go tab_ok [] fun K hK => ?_
  simp only [go_sem, ↓reduceIte, reduceCtorEq, Nat.reduceBEq, Nat.reduceAdd, Nat.reduceMul, Nat.reduceSub, Nat.reduceLT, Nat.reduceLeDiff, Nat.reduceEqDiff]
  (refine hK _ _ ?_; (try clear hK); (try clear K))
  refine PW.go tab_ok [] fun K hK => ?_
  simp only [go_sem, ↓reduceIte, reduceCtorEq, Nat.reduceBEq, Nat.reduceAdd, Nat.reduceMul, Nat.reduceSub, Nat.reduceLT, Nat.reduceLeDiff, Nat.reduceEqDiff]
  refine hlex.use (Weaks.refl _) rfl (by simp [PV.clean, PVs.clean, toks_clean]; rfl) ?_
  refine PO.go tab_ok [] ?_
  simp only [ftPV, go_sem, ↓reduceIte, reduceCtorEq, Nat.reduceBEq, Nat.reduceAdd, Nat.reduceMul, Nat.reduceSub, Nat.reduceLT, Nat.reduceLeDiff, Nat.reduceEqDiff]
  (refine hK _ _ ?_; (try clear hK); (try clear K))
  refine PW.seq_k fun K0 hK0 => ?_
  refine PW.go tab_ok [] fun K hK => ?_
  simp only [go_sem, ↓reduceIte, reduceCtorEq, Nat.reduceBEq, Nat.reduceAdd, Nat.reduceMul, Nat.reduceSub, Nat.reduceLT, Nat.reduceLeDiff, Nat.reduceEqDiff]
  (refine hK _ _ ?_; (try clear hK); (try clear K))
  refine PW.cond_split (b := f.c != 0) rfl ?_ ?_ <;> intro hb
  · have hc : f.c ≠ 0 := by simpa using hb
    refine PW.draws tab_ok mixed [] [(0, []), (1, []), (2, [1]), (3, [])] (by kernel_rfl) fun K hK => ?_
    simp only [go_sem, ↓reduceIte, reduceCtorEq, Nat.reduceBEq, Nat.reduceAdd, Nat.reduceMul, Nat.reduceSub, Nat.reduceLT, Nat.reduceLeDiff, Nat.reduceEqDiff]
    (refine hK _ _ ?_; (try clear hK); (try clear K))
    refine PW.ret (Pure.finw (.inl rfl) rfl ?_ (by simp [PV.clean, PVs.clean, exPV_clean]; rfl))
    simp only [oneM, if_pos hc, resPV]
    exact Weak.tup (.cons (ex_weak _ _ _ _ _ _ _) (.cons (.refl _) .nil))
  have hc : f.c = 0 := by simpa using hb
  have hc' : ¬ f.c ≠ 0 := by simp [hc]
  refine PW.skip (hK0 _ _ ?_)
  clear hK0 K0
  have h := hl hc
  have hex := exprM_sh.ok _ h
  refine PW.go tab_ok [] fun K hK => ?_
  simp only [toksPV, go_sem, ↓reduceIte, reduceCtorEq, Nat.reduceBEq, Nat.reduceAdd, Nat.reduceMul, Nat.reduceSub, Nat.reduceLT, Nat.reduceLeDiff, Nat.reduceEqDiff]
  (refine hK _ _ ?_; (try clear hK); (try clear K))
  refine PW.go tab_ok [] fun K hK => ?_
  simp only [go_sem, ↓reduceIte, reduceCtorEq, Nat.reduceBEq, Nat.reduceAdd, Nat.reduceMul, Nat.reduceSub, Nat.reduceLT, Nat.reduceLeDiff, Nat.reduceEqDiff]
  refine (expr_pc h rfl).use 3 rfl (Weaks.refl _) rfl ?_
  refine PO.go tab_ok [] ?_
  simp only [exPV_cells, exC_len, exC_all, exC_take, exC_drop, agg_exC, go_sem, ↓reduceIte, reduceCtorEq, Nat.reduceBEq, Nat.reduceAdd, Nat.reduceMul, Nat.reduceSub, Nat.reduceLT, Nat.reduceLeDiff, Nat.reduceEqDiff]
  (refine hK _ _ ?_; (try clear hK); (try clear K))
  refine PW.seq_k fun K0 hK0 => ?_
  refine PW.go tab_ok [] fun K hK => ?_
  simp only [go_sem, ↓reduceIte, reduceCtorEq, Nat.reduceBEq, Nat.reduceAdd, Nat.reduceMul, Nat.reduceSub, Nat.reduceLT, Nat.reduceLeDiff, Nat.reduceEqDiff]
  refine (end_pc hex).use 3 rfl (Weaks.refl _) rfl ?_
  refine PO.go tab_ok [] ?_
  simp only [go_sem, ↓reduceIte, reduceCtorEq, Nat.reduceBEq, Nat.reduceAdd, Nat.reduceMul, Nat.reduceSub, Nat.reduceLT, Nat.reduceLeDiff, Nat.reduceEqDiff]
  (refine hK _ _ ?_; (try clear hK); (try clear K))
  refine PW.go tab_ok [] fun K hK => ?_
  simp only [go_sem, ↓reduceIte, reduceCtorEq, Nat.reduceBEq, Nat.reduceAdd, Nat.reduceMul, Nat.reduceSub, Nat.reduceLT, Nat.reduceLeDiff, Nat.reduceEqDiff]
  (refine hK _ _ ?_; (try clear hK); (try clear K))
  refine PW.cond_split (b := (endM (exprM ⟨l, 0, 0, 0⟩).2).c != 0) rfl ?_ ?_ <;> intro hb2
  · have hc2 : (endM (exprM ⟨l, 0, 0, 0⟩).2).c ≠ 0 := by simpa using hb2
    refine PW.draws tab_ok mixed [] [(0, []), (1, []), (2, [1]), (3, [])] (by kernel_rfl) fun K hK => ?_
    simp only [go_sem, ↓reduceIte, reduceCtorEq, Nat.reduceBEq, Nat.reduceAdd, Nat.reduceMul, Nat.reduceSub, Nat.reduceLT, Nat.reduceLeDiff, Nat.reduceEqDiff]
    (refine hK _ _ ?_; (try clear hK); (try clear K))
    refine PW.ret (Pure.finw (.inl rfl) rfl ?_ (by simp [PV.clean, PVs.clean, exPV_clean]; rfl))
    simp only [oneM, if_neg hc', if_pos hc2, resPV]
    exact Weak.tup (.cons (ex_weak _ _ _ _ _ _ _) (.cons (.refl _) .nil))
  have hc2 : ¬ (endM (exprM ⟨l, 0, 0, 0⟩).2).c ≠ 0 := by simpa using hb2
  refine PW.skip (hK0 _ _ ?_)
  clear hK0 K0
  refine PW.go tab_ok [] fun K hK => ?_
  simp only [exPV_cells, exC_len, exC_all, exC_take, exC_drop, agg_exC, go_sem, ↓reduceIte, reduceCtorEq, Nat.reduceBEq, Nat.reduceAdd, Nat.reduceMul, Nat.reduceSub, Nat.reduceLT, Nat.reduceLeDiff, Nat.reduceEqDiff]
  (refine hK _ _ ?_; (try clear hK); (try clear K))
  refine PW.ret (Pure.finw (.inl rfl) (res_cell2 (x := exPV (exprM ⟨l, 0, 0, 0⟩).1) rfl rfl (by simp only [exPV_cells, exC_len, exC_all, exC_take, exC_drop, agg_exC, go_sem, ↓reduceIte, reduceCtorEq, Nat.reduceBEq, Nat.reduceAdd, Nat.reduceMul, Nat.reduceSub, Nat.reduceLT, Nat.reduceLeDiff, Nat.reduceEqDiff]) rfl rfl rfl) ?_ (by simp [PV.clean, PVs.clean, exPV_clean]; rfl))
  simp only [oneM, if_neg hc', if_neg hc2, resPV]
  exact .refl _
end Go.Proofs.Ytolhbjfaahcekaa
end
section
/- The lexer: all tokens. -/
set_option linter.unusedVariables false
set_option linter.unusedSimpArgs false
namespace Go.Proofs.Ytolhbjfaahcekaa
open Go

theorem indexByte_lt : ∀ (l : Str) (c : UInt8), -1 ≤ Lib.indexByte l c ∧ Lib.indexByte l c < l.length
  | [], c => by simp [Lib.indexByte]
  | b :: l, c => by
    have := indexByte_lt l c
    simp only [Lib.indexByte, List.length_cons]
    split
    · omega
    · split
      · omega
      · omega
theorem quoteF_le : ∀ (m : Nat) (rest out : Str) (a : Nat), (quoteF m rest out a).e = 0 → a < (quoteF m rest out a).n ∧ (quoteF m rest out a).n ≤ a + rest.length
  | 0, rest, out, a, h => by simp [quoteF] at h
  | m + 1, rest, out, a, h => by
    have hi := indexByte_lt rest 39
    unfold quoteF at h ⊢
    split at h
    · simp at h
    · rename_i h1
      rw [if_neg h1]
      simp only at h ⊢
      split at h
      · rename_i h2
        rw [if_pos h2]
        have := quoteF_le m _ _ _ h
        simp only [List.length_drop] at this
        have h3 : 1 ≤ (rest.drop ((Lib.indexByte rest 39).toNat + 1)).length := by
          simp only [prefB, Bool.and_eq_true, decide_eq_true_eq] at h2
          have := h2.1
          simp at this
          simp
          omega
        simp only [List.length_drop] at h3
        omega
      · rename_i h2
        rw [if_neg h2]
        split at h
        · simp at h
        · rename_i h4
          rw [if_neg h4]
          simp only
          omega
theorem signF_le : ∀ (l : List Str) (s : Str), (∀ x ∈ l, x ≠ []) → (signF l s).e = 0 → 1 ≤ (signF l s).n ∧ (signF l s).n ≤ s.length
  | [], s, _, h => by simp [signF] at h
  | x :: l, s, hl, h => by
    unfold signF at h ⊢
    split
    · rename_i hp
      have hx := hl x (by simp)
      simp only [prefB, Bool.and_eq_true, decide_eq_true_eq] at hp
      have h1 := hp.1
      have : x.length ≠ 0 := by simpa using hx
      simp only
      omega
    · rename_i hp
      rw [if_neg hp] at h
      exact signF_le l s (fun y hy => hl y (by simp [hy])) h
theorem rowN_pos {p : UInt8 → Bool} {c : UInt8} {r : Str} (h : p c = true) : 1 ≤ rowN p (c :: r) := by
  simp [rowN, h]
theorem tokenM_le {s : Str} (hs : s ≠ []) (h : (tokenM s).e = 0) : 1 ≤ (tokenM s).n ∧ (tokenM s).n ≤ s.length := by
  cases s with
  | nil => exact absurd rfl hs
  | cons c r =>
    unfold tokenM at h ⊢
    simp only at h ⊢
    split
    · rename_i h1
      rw [if_pos h1] at h
      have := quoteF_le _ _ _ _ h
      simp only [quotedM, List.length_drop, List.length_cons] at this ⊢
      omega
    · rename_i h1
      rw [if_neg h1] at h
      split
      · rename_i h2
        exact ⟨rowN_pos (by simp [smallB, h2]), rowN_le _ _⟩
      · rename_i h2
        rw [if_neg h2] at h
        split
        · rename_i h3
          exact ⟨rowN_pos h3, rowN_le _ _⟩
        · rename_i h3
          rw [if_neg h3] at h
          split
          · rename_i h4
            exact ⟨rowN_pos h4, rowN_le _ _⟩
          · rename_i h4
            rw [if_neg h4] at h
            exact signF_le signsL _ (by decide) h
def lexF : Nat → Str → Nat → List Tok → List Tok × Ft
  | 0, _, _, _ => ([], ⟨0, 0⟩)
  | n + 1, rest, a, acc =>
    if rest.drop (blankN rest) = [] then (acc ++ [⟨6, [], 0, ((a + blankN rest : Nat) : Int)⟩], ⟨0, 0⟩)
    else if (tokenM (rest.drop (blankN rest))).e ≠ 0 then ([], ⟨(tokenM (rest.drop (blankN rest))).e, ((a + blankN rest : Nat) : Int)⟩)
    else lexF n (rest.drop (blankN rest + (tokenM (rest.drop (blankN rest))).n)) (a + blankN rest + (tokenM (rest.drop (blankN rest))).n)
      (acc ++ [{ (tokenM (rest.drop (blankN rest))).t with at_ := ((a + blankN rest : Nat) : Int) }])
def lexM (s : Str) : List Tok × Ft := if (s.length : Int) > 2000 then ([], ⟨2, -1⟩) else lexF (s.length + 1) s 0 []
theorem tokens_pc {s : Str} (hq : ∀ r : Str, r ≠ [] → r.length ≤ 2000 → Pure Try.prog 32 [.str r] (tk3PV (quotedM r))) :
    Pure Try.prog 9 [.str s] (.tup [toksPV (lexM s).1, ftPV (lexM s).2]) := by
  have hcl : PV.clean 0 0 (.tup [toksPV (lexM s).1, ftPV (lexM s).2]) = true := by simp [PV.clean, PVs.clean, toks_clean]; rfl
  refine PC.intro tab_ok Try.func9 rfl (by kernel_rfl) Try.ntmps9 (Nat.le_of_ble_eq_true rfl) (rs := _) (congrArg Array.toList Try.results9) ?_
  refine PW.go tab_ok [] fun K hK => ?_
  simp only [go_sem, ↓reduceIte, reduceCtorEq, Nat.reduceBEq, Nat.reduceAdd, Nat.reduceMul, Nat.reduceSub, Nat.reduceLT, Nat.reduceLeDiff, Nat.reduceEqDiff]
  (refine hK _ _ ?_; (try clear hK); (try clear K))
  refine PW.seq_k fun K0 hK0 => ?_
  refine PW.go tab_ok [] fun K hK => ?_
  simp only [go_sem, ↓reduceIte, reduceCtorEq, Nat.reduceBEq, Nat.reduceAdd, Nat.reduceMul, Nat.reduceSub, Nat.reduceLT, Nat.reduceLeDiff, Nat.reduceEqDiff]
  (refine hK _ _ ?_; (try clear hK); (try clear K))
  refine PW.cond_split (b := decide ((s.length : Int) > 2000)) rfl ?_ ?_ <;> intro hb
  · have h2 : (s.length : Int) > 2000 := by simpa using hb
    refine PW.go tab_ok [] fun K hK => ?_
    simp only [go_sem, ↓reduceIte, reduceCtorEq, Nat.reduceBEq, Nat.reduceAdd, Nat.reduceMul, Nat.reduceSub, Nat.reduceLT, Nat.reduceLeDiff, Nat.reduceEqDiff]
    (refine hK _ _ ?_; (try clear hK); (try clear K))
    refine PW.ret (Pure.finw (.inl rfl) rfl ?_ hcl)
    simp only [lexM, if_pos h2, resPV]
    exact Weak.tup (.cons (Weak.nil _ _ _) (.cons (.refl _) .nil))
  have h2 : ¬ (s.length : Int) > 2000 := by simpa using hb
  have hlex : lexM s = lexF (s.length + 1) s 0 [] := by simp only [lexM, if_neg h2]
  refine PW.skip (hK0 _ _ ?_)
  clear hK0 K0
  refine PW.go tab_ok [] fun K hK => ?_
  simp only [go_sem, ↓reduceIte, reduceCtorEq, Nat.reduceBEq, Nat.reduceAdd, Nat.reduceMul, Nat.reduceSub, Nat.reduceLT, Nat.reduceLeDiff, Nat.reduceEqDiff]
  (refine hK _ _ ?_; (try clear hK); (try clear K))
  refine PW.go tab_ok [] fun K hK => ?_
  simp only [go_sem, ↓reduceIte, reduceCtorEq, Nat.reduceBEq, Nat.reduceAdd, Nat.reduceMul, Nat.reduceSub, Nat.reduceLT, Nat.reduceLeDiff, Nat.reduceEqDiff]
  (refine hK _ _ ?_; (try clear hK); (try clear K))
  refine PW.adopt ?_
  refine PW.less [(5, .int .i64 0), (4, .list 4 [] (.own 0)), (3, .ref 0 0), (0, .str s)] (by simp [Sub, eget, Weak.nil]) ?_
  refine PW.block (PW.loop (α := Nat × Nat × List Tok) (fun x => [(5, .int .i64 (x.2.1 : Int)), (4, .list 4 (x.2.2.map tokPV) (.own 0)), (3, .ref 0 0), (0, .str s)]) (fun x => ⟨[[.int .i64 0, .int .i64 0]], [x.2.2.length]⟩)
    (fun x => x.2.1 ≤ s.length ∧ s.length - x.2.1 < x.1 ∧ x.2.2.length ≤ x.2.1 ∧ lexF x.1 (s.drop x.2.1) x.2.1 x.2.2 = lexM s) (fun x => x.1) (s.length + 1, 0, []) ⟨Nat.zero_le _, by simp, Nat.zero_le _, by rw [hlex]; rfl⟩ ?_ rfl (fun _ _ => ⟨rfl, rfl⟩) ?_)
  · simp [Sub, eget]
  rintro ⟨n, a, acc⟩ ⟨ha, hn, hacc, he⟩
  simp only at ha hn hacc he
  obtain ⟨m, rfl⟩ : ∃ m, n = m + 1 := ⟨n - 1, by omega⟩
  have h0 : (0 : Int) ≤ (a : Int) := by omega
  have h0' : (a : Int) ≤ (s.length : Int) := by omega
  have hs2 : s.length ≤ 2000 := by omega
  have hbl : blankN (s.drop a) ≤ s.length - a := by have := blankN_le (s.drop a); simpa using this
  have hw : IntKind.i64.wrap ((a : Int) + (blankN (s.drop a) : Int)) = ((a + blankN (s.drop a) : Nat) : Int) := by
    rw [show (a : Int) + (blankN (s.drop a) : Int) = ((a + blankN (s.drop a) : Nat) : Int) from by omega]
    exact wrap_nat (by omega)
  have hfit : (acc.length + 1) * 40 ≤ 140737488355328 := by omega
  have hmax : acc.length + 1 ≤ maxLen := by unfold maxLen; omega
  refine PW.block ?_
  refine PW.go tab_ok [] fun K hK => ?_
  simp only [h0, h0', Int.toNat_natCast, go_sem, ↓reduceIte, reduceCtorEq, Nat.reduceBEq, Nat.reduceAdd, Nat.reduceMul, Nat.reduceSub, Nat.reduceLT, Nat.reduceLeDiff, Nat.reduceEqDiff]
  refine (blanks_pc (s := s.drop a) (by simp; omega)).use (Weaks.refl _) rfl rfl ?_
  refine PO.go tab_ok [] ?_
  simp only [hw, go_sem, ↓reduceIte, reduceCtorEq, Nat.reduceBEq, Nat.reduceAdd, Nat.reduceMul, Nat.reduceSub, Nat.reduceLT, Nat.reduceLeDiff, Nat.reduceEqDiff]
  (refine hK _ _ ?_; (try clear hK); (try clear K))
  have hdd : (s.drop a).drop (blankN (s.drop a)) = s.drop (a + blankN (s.drop a)) := by rw [List.drop_drop]
  simp only [lexF] at he
  rw [hdd] at he
  generalize blankN (s.drop a) = k at hbl hw hdd he ⊢
  refine PW.seq_k fun K0 hK0 => ?_
  refine PW.go tab_ok [] fun K hK => ?_
  simp only [go_sem, ↓reduceIte, reduceCtorEq, Nat.reduceBEq, Nat.reduceAdd, Nat.reduceMul, Nat.reduceSub, Nat.reduceLT, Nat.reduceLeDiff, Nat.reduceEqDiff]
  (refine hK _ _ ?_; (try clear hK); (try clear K))
  refine PW.cond_split (b := (((a + k : Nat) : Int) == (s.length : Int))) rfl ?_ ?_ <;> intro hb1
  · have h1 : a + k = s.length := by have : ((a + k : Nat) : Int) = (s.length : Int) := by simpa using hb1
                                     omega
    have hnil : s.drop (a + k) = [] := List.drop_eq_nil_of_le (by omega)
    rw [if_pos hnil] at he
    refine PW.go tab_ok [] fun K hK => ?_
    simp only [hfit, hmax, tokPV, go_sem, ↓reduceIte, reduceCtorEq, Nat.reduceBEq, Nat.reduceAdd, Nat.reduceMul, Nat.reduceSub, Nat.reduceLT, Nat.reduceLeDiff, Nat.reduceEqDiff]
    (refine hK _ _ ?_; (try clear hK); (try clear K))
    refine PW.ret (Pure.finw (.inl rfl) rfl ?_ hcl)
    rw [← he]
    simp only [resPV]
    refine Weak.tup (.cons ?_ (.cons (.refl _) .nil))
    have : toksPV (acc ++ [⟨6, [], 0, ((a + k : Nat) : Int)⟩]) = .list 4 (acc.map tokPV ++ [tokPV ⟨6, [], 0, ((a + k : Nat) : Int)⟩]) .no := by simp [toksPV]
    rw [this]
    exact Weak.no _ _ _
  have h1 : a + k < s.length := by
    have : ¬ ((a + k : Nat) : Int) = (s.length : Int) := by simpa using hb1
    omega
  have hne : s.drop (a + k) ≠ [] := by simp; omega
  rw [if_neg hne] at he
  have h3 : (0 : Int) ≤ ((a + k : Nat) : Int) := by omega
  have h3' : ((a + k : Nat) : Int) ≤ (s.length : Int) := by omega
  have htk : Pure Try.prog 17 [.str (s.drop (a + k))] (tk3PV (tokenM (s.drop (a + k)))) := by
    have hqq := hq (s.drop (a + k)) hne (by simp; omega)
    cases hc : s.drop (a + k) with
    | nil => exact absurd hc hne
    | cons c r =>
      rw [hc] at hqq
      exact token_pc (by rw [← hc]; simp; omega) hqq
  have htl := tokenM_le hne
  generalize tokenM (s.drop (a + k)) = x at he htk htl
  refine PW.skip (hK0 _ _ ?_)
  clear hK0 K0
  refine PW.go tab_ok [] fun K hK => ?_
  simp only [h3, h3', Int.toNat_natCast, go_sem, ↓reduceIte, reduceCtorEq, Nat.reduceBEq, Nat.reduceAdd, Nat.reduceMul, Nat.reduceSub, Nat.reduceLT, Nat.reduceLeDiff, Nat.reduceEqDiff]
  refine htk.use (Weaks.refl _) rfl rfl ?_
  refine PO.go tab_ok [] ?_
  simp only [tk3PV, tokPV, go_sem, ↓reduceIte, reduceCtorEq, Nat.reduceBEq, Nat.reduceAdd, Nat.reduceMul, Nat.reduceSub, Nat.reduceLT, Nat.reduceLeDiff, Nat.reduceEqDiff]
  (refine hK _ _ ?_; (try clear hK); (try clear K))
  refine PW.seq_k fun K0 hK0 => ?_
  refine PW.go tab_ok [] fun K hK => ?_
  simp only [go_sem, ↓reduceIte, reduceCtorEq, Nat.reduceBEq, Nat.reduceAdd, Nat.reduceMul, Nat.reduceSub, Nat.reduceLT, Nat.reduceLeDiff, Nat.reduceEqDiff]
  (refine hK _ _ ?_; (try clear hK); (try clear K))
  refine PW.cond_split (b := x.e != 0) rfl ?_ ?_ <;> intro hb2
  · have h4 : x.e ≠ 0 := by simpa using hb2
    rw [if_pos h4] at he
    refine PW.go tab_ok [] fun K hK => ?_
    simp only [go_sem, ↓reduceIte, reduceCtorEq, Nat.reduceBEq, Nat.reduceAdd, Nat.reduceMul, Nat.reduceSub, Nat.reduceLT, Nat.reduceLeDiff, Nat.reduceEqDiff]
    (refine hK _ _ ?_; (try clear hK); (try clear K))
    refine PW.ret (Pure.finw (.inl rfl) rfl ?_ hcl)
    rw [← he]
    simp only [resPV]
    exact Weak.tup (.cons (Weak.nil _ _ _) (.cons (.refl _) .nil))
  have h4 : x.e = 0 := by simpa using hb2
  have h4' : ¬ x.e ≠ 0 := by simp [h4]
  rw [if_neg h4'] at he
  obtain ⟨h5, h6⟩ := htl h4
  simp only [List.length_drop] at h6
  have hw2 : IntKind.i64.wrap (((a + k : Nat) : Int) + (x.n : Int)) = ((a + k + x.n : Nat) : Int) := by
    rw [show ((a + k : Nat) : Int) + (x.n : Int) = ((a + k + x.n : Nat) : Int) from by omega]
    exact wrap_nat (by omega)
  refine PW.skip (hK0 _ _ ?_)
  clear hK0 K0
  refine PW.go tab_ok [] fun K hK => ?_
  simp only [go_sem, ↓reduceIte, reduceCtorEq, Nat.reduceBEq, Nat.reduceAdd, Nat.reduceMul, Nat.reduceSub, Nat.reduceLT, Nat.reduceLeDiff, Nat.reduceEqDiff]
  (refine hK _ _ ?_; (try clear hK); (try clear K))
  refine PW.goL tab_ok [] fun K hK => ?_
  simp only [hfit, hmax, hw2, go_sem, ↓reduceIte, reduceCtorEq, Nat.reduceBEq, Nat.reduceAdd, Nat.reduceMul, Nat.reduceSub, Nat.reduceLT, Nat.reduceLeDiff, Nat.reduceEqDiff]
  (refine hK _ _ ?_; (try clear hK); (try clear K))
  refine ⟨(m, a + k + x.n, acc ++ [{ x.t with at_ := ((a + k : Nat) : Int) }]), ⟨?_, ?_, ?_, ?_⟩, by simp, ?_, ?_, ?_⟩
  · simp only; omega
  · simp only; omega
  · simp; omega
  · simp only
    rw [← he, List.drop_drop, Nat.add_assoc]
  · simp [Sub, eget, tokPV]
  · exact ⟨by simp [PV.isCell], by simp, by simp [PVs.clean, PV.clean]⟩
  · have hcm : ∀ l : List Tok, PVs.clean 1 1 (l.map tokPV) = true := fun l => clean_map (tok_clean 1 1) l
    simp only [Env.clean, PV.clean, List.length_cons, List.length_nil, List.nil_append, Nat.zero_add, hcm]
    rfl
end Go.Proofs.Ytolhbjfaahcekaa
end
section
/- The lexer at the machine: a quoted text. -/
set_option linter.unusedVariables false
set_option linter.unusedSimpArgs false
namespace Go.Proofs.Ytolhbjfaahcekaa
open Go Go.Proofs Go.RowKit

def tokV (t : Tok) : Value := .agg #[.int .i64 t.kind, .string ⟨t.text.toArray⟩, .int .i64 t.num, .int .i64 t.at_]
def tk3V (x : Tk3) : Value := .tuple #[tokV x.t, .int .i64 (x.n : Int), .int .i64 x.e]
theorem ext_drop (l : Str) (k : Nat) : ((⟨l.toArray⟩ : ByteArray).extract k l.length).data.toList = l.drop k := Lib.extract_to_end ⟨l.toArray⟩ k
theorem ext_take (l : Str) (k i : Nat) : ((⟨l.toArray⟩ : ByteArray).extract k (k + i)).data.toList = (l.drop k).take i := by
  rw [Lib.extract_data]
  congr 1
  omega
theorem index_w (l : Str) (k : Nat) (j : Int) (w : World) (hj : Lib.indexByte (l.drop k) 39 = j) :
    Calls Try.prog 54 #[.string ((⟨l.toArray⟩ : ByteArray).extract k l.length), .int .u8 39] w fun e w' => e = .returned (.int .i64 j) ∧ w' = w := by
  refine (Try.strings_IndexByte _ _ _).mono ?_
  rintro e w' ⟨rfl, rfl⟩
  rw [ext_drop, show (39 : Int).toNat.toUInt8 = 39 from rfl, hj]
  exact ⟨rfl, rfl⟩
theorem prefix_w (l : Str) (k : Nat) (b : Bool) (w : World) (hb : prefB (l.drop k) [39] = b) :
    Calls Try.prog 29 #[.string ((⟨l.toArray⟩ : ByteArray).extract k l.length), .string ⟨#[39]⟩] w fun e w' => e = .returned (.bool b) ∧ w' = w := by
  refine (Try.strings_HasPrefix _ _ _).mono ?_
  rintro e w' ⟨rfl, rfl⟩
  refine ⟨?_, rfl⟩
  congr 2
  rw [ext_drop, ← hb]
  generalize l.drop k = s
  cases s with
  | nil => rfl
  | cons x s =>
    simp only [prefB, Lib.hasPrefix, List.isPrefixOf, List.isPrefixOf_nil_left, List.length_cons, List.length_nil, List.take_succ_cons, List.take_zero, Bool.and_true]
    rw [decide_eq_true (by omega), Bool.true_and]
    by_cases h : x = 39
    · subst h; rfl
    · have h' : ¬ 39 = x := fun e => h e.symm
      have h2 : ([x] == [39]) = false := beq_eq_false_iff_ne.2 fun e => h (List.cons.inj e).1
      rw [h2, beq_eq_false_iff_ne.2 h']
theorem string_w (l : Str) (k i : Nat) (B b : Nat) (out : Str) (w : World) (h : Lib.IsBuilderF 90 5 B b (Lib.byteCells out) w) (hl : out.length ≤ 100000) (hk : l.length ≤ 100000) (hBw : B ≤ w.heap.size) :
    Calls Try.prog 55 #[.pointer (some ⟨b, 0, none⟩), .string ((⟨l.toArray⟩ : ByteArray).extract k (k + i))] w fun e w' => (∃ n : Int, e = .returned (.tuple #[.int .i64 n, .nilIface])) ∧ Lib.IsBuilderF 90 5 B b (Lib.byteCells (out ++ (l.drop k).take i)) w' ∧ Below B w w' := by
  have hsz : ((⟨l.toArray⟩ : ByteArray).extract k (k + i)).size ≤ l.length := by
    have := congrArg List.length (ext_take l k i)
    simp only [List.length_take, List.length_drop, Array.length_toList] at this
    show ((⟨l.toArray⟩ : ByteArray).extract k (k + i)).data.size ≤ _
    omega
  refine (sb_string B b _ _ w h (by rw [Lib.byteCells_length]; omega) hBw).mono ?_
  rintro e w' ⟨rfl, h1, h2⟩
  refine ⟨⟨_, rfl⟩, .inr ?_, h2⟩
  rw [Lib.byteCells_append]
  have : Lib.strCells ((⟨l.toArray⟩ : ByteArray).extract k (k + i)) = Lib.byteCells ((l.drop k).take i) := by
    rw [← ext_take]
    rfl
  rw [← this]
  exact h1

theorem bcell {W w1 : World} {n : Nat} (hb : Below n W w1) : (∀ b o, b < n → w1.cell? ⟨b, o, none⟩ = W.cell? ⟨b, o, none⟩) ∧ (∀ b o, b < n → w1.frozen? ⟨b, o, none⟩ = W.frozen? ⟨b, o, none⟩) :=
  ⟨fun b o h => hb.cell (p := ⟨b, o, none⟩) h, fun b o h => hb.frozen (p := ⟨b, o, none⟩) h⟩
set_option maxHeartbeats 4000000 in
set_option maxRecDepth 1000000 in
theorem quoted_walk (l : Str) (w : World) (h0 : 1 ≤ l.length) (hn : l.length ≤ 2000) :
    Calls Try.prog 32 #[.string ⟨l.toArray⟩] w fun e w' => e = .returned (tk3V (quotedM l)) ∧ Below w.heap.size w w' := by
  have hsz : (⟨l.toArray⟩ : ByteArray).size = l.length := rfl
  go_enter Try.func32, Try.ntmps32
  go_wp2
  go_loopw [6] (fun a wr => ∃ (k m : Nat) (out : Str), a = .int .i64 (k : Int) ∧ k ≤ l.length ∧ l.length - k < m ∧ quoteF m (l.drop k) out k = quotedM l ∧ out.length ≤ k ∧ Lib.IsBuilderF 90 5 (w.heap.size + 1) (w.heap.size + 1) (Lib.byteCells out) wr ∧ Below (w.heap.size + 1) (w.alloc (.cells #[.int .i64 0, .string ⟨#[]⟩, .int .i64 0, .int .i64 0] 58)) wr) (fun a _ => l.length - (intOf a).toNat)
  case atStart =>
    refine ⟨1, l.length, [], rfl, h0, by omega, rfl, by simp, ?_, (Below.refl _ _).alloc (by simp) _⟩
    have hf := Lib.fresh_isBuilder 90 5 (w.alloc (.cells #[.int .i64 0, .string ⟨#[]⟩, .int .i64 0, .int .i64 0] 58))
    have hbc : Lib.byteCells [] = [] := rfl
    rw [hbc]
    simpa using Lib.IsBuilderF.of hf
  case round =>
    obtain ⟨k, m, out, rfl, hk, hm, hq, ho, hI, hb⟩ := hrel
    obtain ⟨hc, hf⟩ := bcell hb
    obtain ⟨m, rfl⟩ : ∃ m', m = m' + 1 := ⟨m - 1, by omega⟩
    have hQ : Hid (quoteF (m + 1) (l.drop k) out k = quotedM l) := hq
    clear hq
    have hlt := indexByte_lt (l.drop k) 39
    have hlen : (l.drop k).length = l.length - k := by simp
    obtain ⟨j, hj⟩ : ∃ j : Int, Lib.indexByte (l.drop k) 39 = j := ⟨_, rfl⟩
    rw [hj, hlen] at hlt
    have HJ : Hid (Lib.indexByte (l.drop k) 39 = j) := hj
    clear hj hlen
    have HS : Hid ((⟨l.toArray⟩ : ByteArray).size = l.length) := hsz
    clear hsz
    by_cases hj0 : j < 0
    · have hjd : decide (j < 0) = true := by simpa using hj0
      have hQ2 : Hid (quotedM l = ⟨tok0, 0, 3⟩) := by
        have h1 := hQ.out
        have h2 := HJ.out
        unfold quoteF at h1
        rw [h2, if_pos hj0] at h1
        exact h1.symm
      go_wp2_with (go_at_call 54; refine (index_w l k j _ HJ.out).mono ?_; rintro e w' ⟨rfl, rfl⟩)
      refine bodyPost_ret (v := tk3V ⟨tok0, 0, 3⟩) (by simp [results, Try.results32, go_sem, tk3V, tokV, tok0, hc]) rfl ⟨by rw [hQ2.out], ?_⟩
      exact ((((((Below.refl _ w).alloc (Nat.le_refl _) _).trans (hb.mono (Nat.le_succ _))).setCell (Nat.le_refl _) _).setCell (Nat.le_refl _) _).setCell (Nat.le_refl _) _).setCell (Nat.le_refl _) _
    · obtain ⟨i, rfl⟩ : ∃ i : Nat, j = (i : Int) := ⟨j.toNat, by omega⟩
      have hjd : decide ((i : Int) < 0) = false := by simp
      have hBw : w.heap.size + 1 ≤ wr.heap.size := by have := hb.size; simpa using this
      obtain ⟨b, HP⟩ : ∃ b : Bool, Hid (prefB (l.drop (k + (i + 1))) [39] = b) := ⟨_, rfl⟩
      have hs1 : ∀ w : World, (Instr.slice 9 (.string ⟨l.toArray⟩) (some (.int .i64 (k : Int))) (some (.int .i64 ((k : Int) + (i : Int)))) none).run Try.prog w = .ok (.string ((⟨l.toArray⟩ : ByteArray).extract k (k + i))) w := fun w => by
        rw [run_slice_string _ _ _ _ _ _ _ Try.underlying9 (by omega) (by omega) (by rw [HS.out]; omega), show ((k : Int) + (i : Int)).toNat = k + i from by omega, Int.toNat_natCast]
      have hs2 : ∀ w : World, (Instr.slice 9 (.string ⟨l.toArray⟩) (some (.int .i64 ((k : Int) + ((i : Int) + 1)))) none none).run Try.prog w = .ok (.string ((⟨l.toArray⟩ : ByteArray).extract (k + (i + 1)) l.length)) w := fun w => by
        rw [run_slice_string_from_if _ _ _ _ _ Try.underlying9, if_pos (by rw [HS.out]; omega), show ((k : Int) + ((i : Int) + 1)).toNat = k + (i + 1) from by omega, HS.out]
      go_wp2_with (first | (go_at_call 54; refine (index_w l k i _ HJ.out).mono ?_; rintro e w' ⟨rfl, rfl⟩) | (go_at_call 55; refine (string_w l k i _ _ out _ hI (by omega) (by omega) hBw).mono ?_))
      rintro e w1 ⟨⟨n, rfl⟩, hI1, hb1⟩
      clear hs1 hI
      have hb2 := hb.trans hb1
      clear hb hb1 hc hf
      obtain ⟨hc, hf⟩ := bcell hb2
      cases b with
      | true =>
        go_wp2_with (go_at_call 29; refine (prefix_w l (k + (i + 1)) true _ HP.out).mono ?_; rintro e w' ⟨rfl, rfl⟩)
        have hBw1 : w.heap.size + 1 ≤ w'.heap.size := by have := hb2.size; simpa using this
        refine (sb_byte (w.heap.size + 1) (w.heap.size + 1) _ 39 _ hI1 (by rw [Lib.byteCells_length]; simp; omega) hBw1).mono ?_
        rintro e w2 ⟨rfl, hI2, hb3⟩
        have hb4 := hb2.trans hb3
        clear hb2 hb3 hc hf hI1
        obtain ⟨hc, hf⟩ := bcell hb4
        go_wp2
        go_roundw
        case rel =>
          have h1 := hQ.out
          have h2 := HP.out
          unfold quoteF at h1
          rw [HJ.out, if_neg (by omega)] at h1
          simp only [Int.toNat_natCast, List.drop_drop] at h1
          rw [h2, if_pos rfl] at h1
          have h3 : 1 ≤ (l.drop (k + (i + 1))).length := by
            cases hd : l.drop (k + (i + 1)) with
            | nil => rw [hd] at h2; cases h2
            | cons => simp
          simp only [List.length_drop] at h3
          refine ⟨k + i + 2, m, out ++ (l.drop k).take i ++ [39], by go_num, by omega, by omega, ?_, ?_, ?_, hb4⟩
          · rw [show k + i + 2 = k + (i + 2) from by omega]
            exact h1
          · simp; omega
          · rw [Lib.byteCells_append]; exact .inr hI2
        case measure => simp [intOf]; omega
      | false =>
        go_wp2_with (go_at_call 29; refine (prefix_w l (k + (i + 1)) false _ HP.out).mono ?_; rintro e w' ⟨rfl, rfl⟩)
        have hBw1 : w.heap.size + 1 ≤ w'.heap.size := by have := hb2.size; simpa using this
        have hbl : (Lib.byteCells (out ++ (l.drop k).take i)).length = out.length + min i (l.length - k) := by rw [Lib.byteCells_length]; simp
        have h1 := hQ.out
        have h2 := HP.out
        unfold quoteF at h1
        rw [HJ.out, if_neg (by omega)] at h1
        simp only [Int.toNat_natCast, List.drop_drop] at h1
        rw [h2] at h1
        simp only [Bool.false_eq_true, if_false, List.length_append, List.length_take, List.length_drop] at h1
        obtain ⟨q, hq⟩ : ∃ q : Nat, q = out.length + min i (l.length - k) := ⟨_, rfl⟩
        rw [← hq] at h1 hbl
        have hql : q ≤ 100000 := by omega
        by_cases h40 : (q : Int) > 40
        · rw [if_pos h40] at h1
          have HQ : Hid (quotedM l = ⟨tok0, 0, 2⟩) := h1.symm
          have HL : Hid ((Lib.byteCells (out ++ (l.drop k).take i)).length = q) := hbl
          have hd40 : decide ((40 : Int) < (q : Int)) = true := by simpa using h40
          clear h1 h2 hbl hq
          refine (Try.Builder_Len_f (w.heap.size + 1) (w.heap.size + 1) _ _ hI1).mono ?_
          rintro e w' ⟨rfl, rfl⟩
          rw [HL.out]
          go_wp2
          refine bodyPost_ret (v := tk3V ⟨tok0, 0, 2⟩) (by simp [results, Try.results32, go_sem, tk3V, tokV, tok0, hc]) rfl ⟨by rw [HQ.out], ?_⟩
          exact ((((((Below.refl _ w).alloc (Nat.le_refl _) _).trans (hb2.mono (Nat.le_succ _))).setCell (Nat.le_refl _) _).setCell (Nat.le_refl _) _).setCell (Nat.le_refl _) _).setCell (Nat.le_refl _) _
        · rw [if_neg h40] at h1
          have HQ : Hid (quotedM l = ⟨⟨4, out ++ (l.drop k).take i, 0, 0⟩, k + (i + 1), 0⟩) := h1.symm
          have HL : Hid ((Lib.byteCells (out ++ (l.drop k).take i)).length = q) := hbl
          have hd40 : decide ((40 : Int) < (q : Int)) = false := by simpa using h40
          clear h1 h2 hbl hq
          refine (Try.Builder_Len_f (w.heap.size + 1) (w.heap.size + 1) _ _ hI1).mono ?_
          rintro e w' ⟨rfl, rfl⟩
          rw [HL.out]
          go_wp2_with (go_at_call 58; refine (Try.Builder_String_any_k (w.heap.size + 1) (w.heap.size + 1) _ _ hI1 hBw1).mono ?_)
          rintro e w2 ⟨rfl, _, hb3, _⟩
          have hb4 := hb2.trans hb3
          clear hb2 hb3 hc hf hI1
          obtain ⟨hc, hf⟩ := bcell hb4
          go_wp2
          refine bodyPost_ret (v := tk3V ⟨⟨4, out ++ (l.drop k).take i, 0, 0⟩, k + (i + 1), 0⟩) (by simp [results, Try.results32, go_sem, tk3V, tokV, tok0, hc]) rfl ⟨by rw [HQ.out], ?_⟩
          exact ((((((Below.refl _ w).alloc (Nat.le_refl _) _).trans (hb4.mono (Nat.le_succ _))).setCell (Nat.le_refl _) _).setCell (Nat.le_refl _) _).setCell (Nat.le_refl _) _).setCell (Nat.le_refl _) _
end Go.Proofs.Ytolhbjfaahcekaa
end
section
/- parse.One, over quoted alone. -/
set_option linter.unusedVariables false
set_option linter.unusedSimpArgs false
namespace Go.Proofs.Ytolhbjfaahcekaa
open Go

theorem lexF_ok : ∀ (n : Nat) (rest : Str) (a : Nat) (acc : List Tok), rest.length < n → (lexF n rest a acc).2.c = 0 → ∃ l e, (lexF n rest a acc).1 = l ++ [e] ∧ e.kind = 6
  | 0, rest, a, acc, h, _ => by omega
  | n + 1, rest, a, acc, h, hc => by
    unfold lexF at hc ⊢
    split
    · exact ⟨acc, _, rfl, rfl⟩
    · rename_i h1
      rw [if_neg h1] at hc
      split at hc
      · rename_i h2
        exact absurd hc h2
      · rename_i h2
        rw [if_neg h2]
        refine lexF_ok n _ _ _ ?_ hc
        have := tokenM_le h1 (by simpa using h2)
        simp only [List.length_drop] at this ⊢
        omega
theorem lexM_ok {s : Str} (h : (lexM s).2.c = 0) : R.ok ⟨(lexM s).1, 0, 0, 0⟩ := by
  unfold lexM at h ⊢
  split at h
  · simp at h
  · rename_i h1
    rw [if_neg h1]
    exact lexF_ok _ _ _ _ (by omega) h
def oneS (s : Str) : Ex × Ft := oneM (lexM s).1 (lexM s).2
theorem oneS_pc {s : Str} (hq : ∀ r : Str, r ≠ [] → r.length ≤ 2000 → Pure Try.prog 32 [.str r] (tk3PV (quotedM r))) :
    Pure Try.prog 6 [.str s] (.tup [exPV (oneS s).1, ftPV (oneS s).2]) := one_pc (tokens_pc hq) lexM_ok
end Go.Proofs.Ytolhbjfaahcekaa
end
section
/- A function of values that is proved at the machine, as a contract of this logic; parse.One whole. -/
set_option linter.unusedVariables false
set_option linter.unusedSimpArgs false
namespace Go.Proofs.Ytolhbjfaahcekaa
open Go Go.Proofs Go.RowKit

theorem Inv.below {G : Gh} {w w' : World} (h : Inv G ⟨[], []⟩ w) (hb : Below w.heap.size w w') : Inv G ⟨[], []⟩ w' := by
  have hr : G.ref = [] := List.eq_nil_of_length_eq_zero h.rlen
  refine ⟨⟨hb.os.trans h.kept.os, hb.tape.trans h.kept.tape, hb.output.trans h.kept.output, Nat.le_trans h.kept.size hb.size, fun b h1 h2 h3 => ?_⟩, fun b i x e => ?_, h.rlen, ?_, h.inj, ?_, ?_, h.fresh⟩
  · rw [hb.block b (Nat.lt_of_lt_of_le h1 h.kept.size), h.kept.block b h1 h2 h3]
  · rw [hb.cell (p := ⟨b, i, none⟩) (h.dat_lt e)]
    exact h.dat b i x e
  · intro r b e
    rw [hr] at e
    simp at e
  · intro k n e
    simp at e
  · intro k k' n n' b c sz c' sz' e
    simp at e
theorem Pure.ofCalls {P : Program} {f : FuncId} {args : List PV} {x : PV} {v : Value} (hE : Enters P f) (hx : ∀ G, Rep G x v)
    (h : ∀ (G : Gh) (w : World) (vs : List Value), Inv G ⟨[], []⟩ w → Reps G args vs → Calls P f vs.toArray w fun e w' => e = .returned v ∧ Below w.heap.size w w') : Pure P f args x :=
  fun G w vs hi hv => .inl ⟨hE, (h G w vs hi hv).mono fun e w' ⟨he, hb⟩ => ⟨v, he, G, x, ⟨[], []⟩, .refl G, hi.below hb, hx G, ⟨rfl, rfl⟩, Nat.le_refl _⟩⟩
theorem rep_tok (G : Gh) (t : Tok) : Rep G (tokPV t) (tokV t) :=
  .agg _ _ (by simp [PV.isCell]) (.cons _ _ _ _ (.int _ _) (.cons _ _ _ _ (.str _) (.cons _ _ _ _ (.int _ _) (.cons _ _ _ _ (.int _ _) .nil))))
theorem quoted_pc {l : Str} (h0 : l ≠ []) (hn : l.length ≤ 2000) : Pure Try.prog 32 [.str l] (tk3PV (quotedM l)) := by
  refine Pure.ofCalls (v := tk3V (quotedM l)) ⟨_, Try.func32, by kernel_rfl, by kernel_rfl⟩ (fun G => .tup _ _ (.cons _ _ _ _ (rep_tok G _) (.cons _ _ _ _ (.int _ _) (.cons _ _ _ _ (.int _ _) .nil)))) ?_
  intro G w vs hi hv
  cases hv with
  | cons _ _ _ _ h1 h2 =>
  cases h1
  cases h2
  exact quoted_walk l w (List.length_pos_iff.2 h0) hn
theorem lex_pc (s : Str) : Pure Try.prog 9 [.str s] (.tup [toksPV (lexM s).1, ftPV (lexM s).2]) := tokens_pc fun r h1 h2 => quoted_pc h1 h2
theorem One_pc (s : Str) : Pure Try.prog 6 [.str s] (.tup [exPV (oneS s).1, ftPV (oneS s).2]) := oneS_pc fun r h1 h2 => quoted_pc h1 h2
end Go.Proofs.Ytolhbjfaahcekaa
end
section
/- From a contract of this logic to a run of the machine; at a row's end. -/
set_option linter.unusedVariables false
set_option linter.unusedSimpArgs false
namespace Go.Proofs.Ytolhbjfaahcekaa
open Go Go.Proofs Go.RowKit Go.WideShapes Go.ChangeShapes

def startGh (w : World) : Gh := ⟨w, fun _ => False, fun _ => False, fun _ => [], [], fun _ _ => none⟩
theorem start_inv (w : World) : Inv (startGh w) ⟨[], []⟩ w where
  kept := ⟨rfl, rfl, rfl, Nat.le_refl _, fun _ _ _ _ => rfl⟩
  dat := fun b i x e => by simp [startGh] at e
  rlen := rfl
  box := fun r b e => by simp [startGh] at e
  inj := List.nodup_nil
  own := fun k n e => by simp at e
  apart := fun k k' n n' b c sz c' sz' e => by simp at e
  fresh := fun _ _ _ => rfl
theorem Pure.calls {P : Program} {f : FuncId} {args : List PV} {x : PV} (h : Pure P f args x) (hE : Enters P f) {w : World} {vs : List Value} (hv : Reps (startGh w) args vs) :
    Calls P f vs.toArray w fun e w' => ∃ v G, e = .returned v ∧ Rep G x v ∧ Below w.heap.size w w' := by
  rcases h (startGh w) w vs (start_inv w) hv with ⟨_, hc⟩ | ⟨v, w', hr, _⟩
  · refine hc.mono ?_
    rintro e w' ⟨v, rfl, G', r, st', hle, hi, hrep, ⟨rfl, rfl⟩, _⟩
    refine ⟨v, G', rfl, hrep, ?_⟩
    have hk := hi.kept
    rw [hle.w0, hle.pub, hle.pob] at hk
    exact ⟨hk.os, hk.tape, hk.output, hk.size, fun b hb => hk.block b hb (fun h => h) (fun h => h)⟩
  · obtain ⟨fn, hf, hname, hb⟩ := hE
    exfalso
    cases hbody : fn.body with
    | none => simp [hbody] at hb
    | some c =>
      have hn : ¬ fn.name = "runtime.NumGoroutine" := by simpa using hname
      have : (callFunc f vs.toArray).run P w = .ok (.enter f vs.toArray) w := by
        simp [callFunc, hf, hbody, hn]
      rw [this] at hr
      cases hr
theorem post_of_below {H : Type} {enc : TypeId × Value → H} {P : Program} {f : Func} {s : ChangeSpec} {apart fresh handsOn again : Bool} {W W' : World} {args : Array Value} {v : Value} {ds gs : List (DataW H)} {before pa pv : List MemPlace}
    (hW : DataW.Whole enc P f.params.toList s.vars apart W args.toList ds gs before)
    (hres : ∀ (b : Nat) (sp : Nat → Bool) (hd : Bool), DataW.TrodAll enc P W' b sp hd f.resultTypes.toList (v.resultList f.resultTypes.size) (s.fn H (ds ++ gs)).results [])
    (hargs : ∀ sp : Nat → Bool, (∀ p ∈ before, sp p.block = true) → DataW.TrodAll enc P W' 0 sp true f.params.toList args.toList (s.fn H (ds ++ gs)).args pa)
    (hvars : ∀ sp : Nat → Bool, (∀ p ∈ before, sp p.block = true) → DataW.TrodVars enc P W' sp s.vars (s.fn H (ds ++ gs)).vars pv)
    (hps : before = pa ++ pv) (hb : Below W.heap.size W W')
    (hok : ∀ (j : Nat) (t : TypeId) (r : Value), f.resultTypes[j]? = some t → (v.resultList f.resultTypes.size)[j]? = some r → Value.okWide P W' .any 0 t r) :
    s.post enc P f apart fresh handsOn again W args v W' := by
  have hlt : ∀ p ∈ before, p.block < W.heap.size := fun p hp => hW.lt p hp
  have hold : ∀ p ∈ before, (fun b => decide (b < W.heap.size)) p.block = true := fun p hp => by simpa using hlt p hp
  refine ⟨ds, gs, before, [], pa, pv, hW, hres _ _ _, hargs _ hold, hvars _ hold, World.keptBut_mono (fun p hp => ⟨hp, ?_⟩) (hb.frame (· ∈ before)), fun _ => ?_⟩
  · rw [hps, List.mem_append] at hp
    exact Or.inr hp
  · obtain ⟨_, _, _, _, _, hz, hn⟩ := hW
    refine ⟨hok, _, _, ([] ++ pa) ++ pv, ⟨[] ++ pa, pv, trodAll_append (hargs _ (fun _ _ => rfl)) (hres _ _ _), hvars _ (fun _ _ => rfl), rfl, ?_, ?_⟩, ?_⟩
    · intro b off hp
      have hin : MemPlace.cell b off ∈ before := by rw [hps]; simpa using hp
      rw [hb.frozen (hlt _ hin)]
      exact hz b off hin
    · intro ha
      have := hn ha
      rw [hps] at this
      simpa using this
    · intro p hp _
      rw [hps]
      simpa using hp
theorem Try.own : ownKnob Try.prog.godebug = none := by kernel_rfl
theorem Try.laidOut : laidOutB Try.prog = true := by kernel_rfl
end Go.Proofs.Ytolhbjfaahcekaa
end
section
/- The parser's statements: what they are made of; a row of readings with commas. -/
set_option linter.unusedVariables false
set_option linter.unusedSimpArgs false
namespace Go.Proofs.Ytolhbjfaahcekaa
open Go

attribute [go_sem] exPV_cells exC_len exC_all exC_take exC_drop agg_exC
structure Col where
  name : Str
  kind : Int
  nn : Bool
  un : Bool
structure SetX where
  name : Str
  e : Ex
structure Itm where
  k : Int
  l : List Ex
structure Stm where
  kind : Int
  table : Str
  cols : List Col
  prim : Str
  rows : List (List Vl)
  sets : List SetX
  items : List Itm
  join : Str
  on : List Ex
  wh : List Ex
  gr : List Ex
  od : List Ex
  desc : Bool
  lim : Int
def vPV (v : Vl) : PV := .agg (vC v)
def coPV (c : Col) : PV := .agg [.str c.name, .int .i64 c.kind, .bool c.nn, .bool c.un]
def rowPV (r : List Vl) : PV := .list 3 (r.map vPV) .no
def sePV (s : SetX) : PV := .agg (.str s.name :: exC s.e)
def itPV (i : Itm) : PV := .agg [.int .i64 i.k, .list 8 (exPVs i.l) .no]
def stC (s : Stm) : List PV := [.int .i64 s.kind, .str s.table, .list 4 (s.cols.map coPV) .no, .str s.prim, .list 1 (s.rows.map rowPV) .no, .list 9 (s.sets.map sePV) .no, .list 2 (s.items.map itPV) .no,
  .str s.join, .list 8 (exPVs s.on) .no, .list 8 (exPVs s.wh) .no, .list 8 (exPVs s.gr) .no, .list 8 (exPVs s.od) .no, .bool s.desc, .int .i64 s.lim]
def stPV1 (s : Stm) : PV := .agg (stC s)
def nilPV : PV := .list 0 [] .nil
/-- A statement of a kind, as it begins. -/
def stC0 (k : Int) : List PV := [.int .i64 k, .str [], nilPV, .str [], nilPV, nilPV, nilPV, .str [], nilPV, nilPV, nilPV, nilPV, .bool false, .int .i64 (-1)]
def stm0 (k : Int) : Stm := ⟨k, [], [], [], [], [], [], [], [], [], [], [], false, -1⟩

theorem v_clean (n m : Nat) (v : Vl) : PV.clean n m (vPV v) = true := rfl
theorem co_clean (n m : Nat) (c : Col) : PV.clean n m (coPV c) = true := rfl
theorem row_clean (n m : Nat) (r : List Vl) : PV.clean n m (rowPV r) = true := by simp [rowPV, PV.clean, clean_map (v_clean n m)]
theorem se_clean (n m : Nat) (s : SetX) : PV.clean n m (sePV s) = true := by simp [sePV, PV.clean, PVs.clean, PVs.clean_data (ex_clean s.e)]
theorem it_clean (n m : Nat) (i : Itm) : PV.clean n m (itPV i) = true := by simp [itPV, PV.clean, PVs.clean, PVs.clean_data (exs_clean i.l)]
theorem st_clean (n m : Nat) (s : Stm) : PVs.clean n m (stC s) = true := by
  simp [stC, PVs.clean, PV.clean, clean_map (co_clean n m), clean_map (row_clean n m), clean_map (se_clean n m), clean_map (it_clean n m), PVs.clean_data (exs_clean _)]
theorem st0_clean (n m : Nat) (k : Int) : PVs.clean n m (stC0 k) = true := rfl
theorem st_all (s : Stm) : (stC s).all PV.isCell = true := rfl

/-- All of a state is told of within it. -/
structure StOk (st : St) : Prop where
  cell : ∀ cs ∈ st.box, cs.all PV.isCell = true
  clean : ∀ cs ∈ st.box, PVs.clean st.box.length st.len.length cs = true
theorem StOk.left {st : St} (h : StOk st) : Left st st :=
  ⟨by rw [List.take_length]; exact Boxes.refl fun cs hc c hx => List.all_eq_true.1 (h.cell cs hc) c hx, List.take_length .., h.clean⟩
/-- What is behind a state's boxes is forgotten. -/
theorem StOk.left_app {box rest : List (List PV)} {len more : List Nat} (h : StOk ⟨box, len⟩) : Left ⟨box ++ rest, len ++ more⟩ ⟨box, len⟩ :=
  ⟨by simp only [List.take_left']; exact Boxes.refl fun cs hc c hx => List.all_eq_true.1 (h.cell cs hc) c hx, List.take_left' rfl, h.clean⟩
theorem StOk.mk' {box : List (List PV)} {len : List Nat} (h : ∀ cs ∈ box, cs.all PV.isCell = true ∧ PVs.clean box.length len.length cs = true) : StOk ⟨box, len⟩ := ⟨fun cs hc => (h cs hc).1, fun cs hc => (h cs hc).2⟩

/-! ### With a fault nothing is read -/
theorem isM_bad {ls : List Str} {r : R} (h : r.c ≠ 0) : isM ls r = -1 := by simp [isM, h]
theorem passM_bad {ls : List Str} {r : R} (h : r.c ≠ 0) : passM ls r = (-1, r) := by simp [passM, isM_bad h]
theorem hasM_bad {s : Str} {r : R} (h : r.c ≠ 0) : hasM s r = (false, r) := by simp [hasM, passM_bad h]
theorem failM_bad {e : Int} {r : R} (h : r.c ≠ 0) : failM e r = r := by simp [failM, h]
theorem mustM_bad : ∀ {ls : List Str} {r : R}, r.c ≠ 0 → mustM ls r = r
  | [], _, _ => rfl
  | l :: ls, r, h => by simp [mustM, hasM_bad h, failM_bad h, mustM_bad (ls := ls) h]
theorem takeM_bad {k : Int} {r : R} (h : r.c ≠ 0) : takeM k r = (tok0, r) := by simp [takeM, h, failM_bad h]
theorem nameM_bad {r : R} (h : r.c ≠ 0) : nameM r = ([], r) := by simp [nameM, takeM_bad h, tok0]
theorem hasM_no {s : Str} {r : R} (h : (hasM s r).1 = false) : (hasM s r).2 = r := by
  simp only [hasM, passM] at h ⊢
  exact if_neg (of_decide_eq_false h)
theorem hasM_yes {s : Str} {r : R} (h : (hasM s r).1 = true) : r.c = 0 := by
  by_cases hc : r.c = 0
  · exact hc
  · rw [hasM_bad hc] at h; cases h

/-! ### many -/
def manyM {σ : Type} (one : R × σ → R × σ) : Nat → R × σ → R × σ
  | 0, s => ((hasM [44] (one (failM 2 s.1, s.2)).1).2, (one (failM 2 s.1, s.2)).2)
  | m + 1, s => if (hasM [44] (one s).1).1 then manyM one m ((hasM [44] (one s).1).2, (one s).2) else ((hasM [44] (one s).1).2, (one s).2)
/-- A closure that reads one; I m: m more may be read. -/
structure Reads (σ : Type) (g : FuncId) (caps : List PV) (one : R × σ → R × σ) (B : σ → List (List PV)) (L : σ → List Nat) (I : Nat → R → σ → Prop) (nb nl : Nat) : Prop where
  pc : ∀ m q s, I m q s → PC Try.prog g caps ⟨rPV q :: B s, L s⟩ fun x st' => x = .tup [] ∧ st' = ⟨rPV (one (q, s)).1 :: B (one (q, s)).2, L (one (q, s)).2⟩
  nb : ∀ s, (B s).length = nb
  nl : ∀ s, (L s).length = nl
  ok : ∀ m q s, I m q s → q.ok
  aft : ∀ m q s, I m q s → (one (q, s)).1.ok
  good : ∀ s q, StOk ⟨rPV q :: B s, L s⟩
  next : ∀ m q s, I (m + 1) q s → I m (hasM [44] (one (q, s)).1).2 (one (q, s)).2
  fail : ∀ q s, I 0 q s → I 0 (failM 2 q) s
  bad : ∀ q s, I 0 q s → q.c ≠ 0 → (one (q, s)).1.c ≠ 0
theorem many_pc {σ : Type} {g : FuncId} {caps : List PV} {one : R × σ → R × σ} {B : σ → List (List PV)} {L : σ → List Nat} {I : Nat → R → σ → Prop} {nb nl : Nat} (h : Reads σ g caps one B L I nb nl) (most : Nat) (hm : most ≤ 100) {q0 : R} {s0 : σ} (h0 : I most q0 s0)
    (hcaps : PVs.clean (nb + 1) nl caps = true) :
    PC Try.prog 44 [.ref 0 0, .int .i64 (most : Int), .clo (.func g) [] caps] ⟨rPV q0 :: B s0, L s0⟩ fun x st' => x = .tup [] ∧ st' = ⟨rPV (manyM one most (q0, s0)).1 :: B (manyM one most (q0, s0)).2, L (manyM one most (q0, s0)).2⟩ := by
  refine PC.intro tab_ok Try.func44 rfl (by kernel_rfl) Try.ntmps44 (Nat.le_of_ble_eq_true rfl) (rs := _) (congrArg Array.toList Try.results44) ?_
  refine PW.go tab_ok [] fun K hK => ?_
  simp only [go_sem, ↓reduceIte, reduceCtorEq, Nat.reduceBEq, Nat.reduceAdd, Nat.reduceMul, Nat.reduceSub, Nat.reduceLT, Nat.reduceLeDiff, Nat.reduceEqDiff]
  (refine hK _ _ ?_; (try clear hK); (try clear K))
  refine PW.block (PW.loop (α := Nat × R × σ) (fun a => [(6, .int .i64 ((most - a.1 : Nat) : Int)), (2, .clo (.func g) [] caps), (1, .int .i64 (most : Int)), (0, .ref 0 0)]) (fun a => ⟨rPV a.2.1 :: B a.2.2, L a.2.2⟩)
    (fun a => a.1 ≤ most ∧ I a.1 a.2.1 a.2.2 ∧ manyM one a.1 a.2 = manyM one most (q0, s0)) (fun a => a.1) (most, q0, s0) ⟨Nat.le_refl _, h0, rfl⟩ ?_ rfl (fun a _ => ⟨by simp [h.nb], by simp [h.nl]⟩) ?_)
  · simp [Sub, eget]
  rintro ⟨m, q, s⟩ ⟨hml, hI, he⟩
  simp only at hml hI he
  have hb := fun s => h.nb s
  have hl := fun s => h.nl s
  refine PW.seq_k fun K1 hK1 => PW.block ?_
  refine PW.seq_k fun K0 hK0 => ?_
  refine PW.go tab_ok [] fun K hK => ?_
  simp only [go_sem, ↓reduceIte, reduceCtorEq, Nat.reduceBEq, Nat.reduceAdd, Nat.reduceMul, Nat.reduceSub, Nat.reduceLT, Nat.reduceLeDiff, Nat.reduceEqDiff]
  (refine hK _ _ ?_; (try clear hK); (try clear K))
  have hcall : ∀ {env : Env} {st : St} (q' : R), Sub env [(6, .int .i64 ((most - m : Nat) : Int)), (2, .clo (.func g) [] caps), (1, .int .i64 (most : Int)), (0, .ref 0 0)] → st = ⟨rPV q' :: B s, L s⟩ → I m q' s →
      ((hasM [44] (one (q', s)).1).1 = true → ∃ k, m = k + 1 ∧ manyM one k ((hasM [44] (one (q', s)).1).2, (one (q', s)).2) = manyM one most (q0, s0)) →
      ((hasM [44] (one (q', s)).1).1 = false → manyM one most (q0, s0) = ((hasM [44] (one (q', s)).1).2, (one (q', s)).2)) → K0 env st := by
    rintro env st q' hsub rfl hI' hyes hno
    refine hK0 _ _ (PW.less _ hsub ?_)
    clear hK0 K0
    have hI1 := h.aft m q' s hI'
    have hI2 := fun k (e : m = k + 1) => h.next k q' s (by rw [← e]; exact hI')
    refine PW.go tab_ok [] fun K hK => ?_
    simp only [go_sem, ↓reduceIte, reduceCtorEq, Nat.reduceBEq, Nat.reduceAdd, Nat.reduceMul, Nat.reduceSub, Nat.reduceLT, Nat.reduceLeDiff, Nat.reduceEqDiff]
    refine (h.pc m q' s hI').mono ?_
    rintro x st' ⟨rfl, rfl⟩
    generalize one (q', s) = z at hI1 hI2 hyes hno ⊢
    refine PO.go tab_ok [] ?_
    simp only [go_sem, ↓reduceIte, reduceCtorEq, Nat.reduceBEq, Nat.reduceAdd, Nat.reduceMul, Nat.reduceSub, Nat.reduceLT, Nat.reduceLeDiff, Nat.reduceEqDiff]
    (refine hK _ _ ?_; (try clear hK); (try clear K))
    refine PW.go tab_ok [] fun K hK => ?_
    simp only [go_sem, ↓reduceIte, reduceCtorEq, Nat.reduceBEq, Nat.reduceAdd, Nat.reduceMul, Nat.reduceSub, Nat.reduceLT, Nat.reduceLeDiff, Nat.reduceEqDiff]
    refine (has_pc (s := [44]) hI1).use 0 rfl (Weaks.refl _) rfl ?_
    refine PO.go tab_ok [] ?_
    simp only [go_sem, ↓reduceIte, reduceCtorEq, Nat.reduceBEq, Nat.reduceAdd, Nat.reduceMul, Nat.reduceSub, Nat.reduceLT, Nat.reduceLeDiff, Nat.reduceEqDiff]
    (refine hK _ _ ?_; (try clear hK); (try clear K))
    refine PW.cond_split (b := !(hasM [44] z.1).1) rfl ?_ ?_ <;> intro hc
    · have hc' : (hasM [44] z.1).1 = false := by simpa using hc
      rw [hno hc']
      refine PW.ret ⟨.inl rfl, _, .tup [], _, rfl, .refl _, (h.good _ _).left, ?_, ?_, rfl, rfl, rfl⟩
      · simp [hb]
      · simp [hl]
    · have hc' : (hasM [44] z.1).1 = true := by simpa using hc
      obtain ⟨k, rfl, hk⟩ := hyes hc'
      refine PW.skip (hK1 _ _ ?_)
      clear hK1 K1
      have hw : IntKind.i64.wrap (((most - (k + 1) : Nat) : Int) + 1) = ((most - k : Nat) : Int) := by
        rw [show ((most - (k + 1) : Nat) : Int) + 1 = ((most - k : Nat) : Int) from by omega]
        exact wrap_nat (by omega)
      refine PW.goL tab_ok [] fun K hK => ?_
      simp only [go_sem, ↓reduceIte, reduceCtorEq, Nat.reduceBEq, Nat.reduceAdd, Nat.reduceMul, Nat.reduceSub, Nat.reduceLT, Nat.reduceLeDiff, Nat.reduceEqDiff]
      (refine hK _ _ ?_; (try clear hK); (try clear K))
      refine ⟨(k, (hasM [44] z.1).2, z.2), ⟨by omega, hI2 k rfl, hk⟩, by simp, by simp [Sub, eget, hw], (h.good _ _).left, ?_⟩
      simp only [Env.clean, PV.clean, PVs.clean, List.length_cons, hb, hl, hcaps, Bool.and_true, Bool.true_and]
      simp
  refine PW.cond_split (b := ((most - m : Nat) : Int) == (most : Int)) rfl ?_ ?_ <;> intro hc
  · have h0m : m = 0 ∨ most = 0 := by
      have : ((most - m : Nat) : Int) = (most : Int) := by simpa using hc
      omega
    have hm0 : m = 0 := by omega
    subst hm0
    refine PW.goL tab_ok [] fun K hK => ?_
    simp only [go_sem, ↓reduceIte, reduceCtorEq, Nat.reduceBEq, Nat.reduceAdd, Nat.reduceMul, Nat.reduceSub, Nat.reduceLT, Nat.reduceLeDiff, Nat.reduceEqDiff]
    refine (fail_pc' (h.ok _ _ _ hI) 2).use 0 rfl (Weaks.refl _) rfl ?_
    refine PO.go tab_ok [] ?_
    simp only [go_sem, ↓reduceIte, reduceCtorEq, Nat.reduceBEq, Nat.reduceAdd, Nat.reduceMul, Nat.reduceSub, Nat.reduceLT, Nat.reduceLeDiff, Nat.reduceEqDiff]
    (refine hK _ _ ?_; (try clear hK); (try clear K))
    have hIf := h.fail q s hI
    have hbad := h.bad _ _ hIf (failM_c 2 q (by decide))
    refine hcall (failM 2 q) (by simp [Sub, eget]) rfl hIf ?_ ?_
    · intro hy
      rw [hasM_bad hbad] at hy
      cases hy
    · intro _
      rw [← he]
      rfl
  · have hm1 : ¬ m = 0 := by
      have : ¬ ((most - m : Nat) : Int) = (most : Int) := by simpa using hc
      omega
    obtain ⟨k, rfl⟩ : ∃ k, m = k + 1 := ⟨m - 1, by omega⟩
    refine PW.skip (hcall q (by simp [Sub, eget]) rfl hI ?_ ?_)
    · intro hy
      refine ⟨k, rfl, ?_⟩
      rw [← he]
      simp [manyM, hy]
    · intro hn
      rw [← he]
      simp [manyM, hn]
end Go.Proofs.Ytolhbjfaahcekaa
end
section
/- The parser's statements: columns of tables, optional parts, items. -/
set_option linter.unusedVariables false
set_option linter.unusedSimpArgs false
namespace Go.Proofs.Ytolhbjfaahcekaa
open Go

def coOps : List Str := [[73, 78, 84], [84, 69, 88, 84]]
def coA (r : R) : Int × R :=
  if (passM coOps (nameM r).2).1 = -1 then (1, failM 4 (passM coOps (nameM r).2).2)
  else if (passM coOps (nameM r).2).1 = 1 then (2, (passM coOps (nameM r).2).2) else (1, (passM coOps (nameM r).2).2)
def coB (r : R) : Bool × R := ((hasM sNOT (coA r).2).1, if (hasM sNOT (coA r).2).1 then mustM [sNULL] (hasM sNOT (coA r).2).2 else (hasM sNOT (coA r).2).2)
def sUNIQUE : Str := [85, 78, 73, 81, 85, 69]
def coM (r : R) : Col × R := (⟨(nameM r).1, (coA r).1, (coB r).1, (hasM sUNIQUE (coB r).2).1⟩, (hasM sUNIQUE (coB r).2).2)
theorem coA_ok {r : R} (h : r.ok) : (coA r).2.ok := by
  unfold coA
  split
  · exact failM_ok (passM_ok (nameM_ok h)) 4
  · split <;> exact passM_ok (nameM_ok h)
theorem coB_ok {r : R} (h : r.ok) : (coB r).2.ok := by
  unfold coB
  simp only
  split
  · exact mustM_ok (hasM_ok (coA_ok h))
  · exact hasM_ok (coA_ok h)
theorem coM_ok {r : R} (h : r.ok) : (coM r).2.ok := hasM_ok (coB_ok h)
theorem nameM_d (r : R) : (nameM r).2.d = r.d := takeM_d 1 r
theorem coA_d (r : R) : (coA r).2.d = r.d := by
  unfold coA
  split
  · simp only [failM_d, passM_d, nameM_d]
  · split <;> simp only [passM_d, nameM_d]
theorem coB_d (r : R) : (coB r).2.d = r.d := by
  unfold coB
  simp only
  split <;> simp only [mustM_d, hasM_d, coA_d]
theorem coM_d (r : R) : (coM r).2.d = r.d := by simp only [coM, hasM_d, coB_d]
theorem coM_bad {r : R} (h : r.c ≠ 0) : (coM r).2 = r := by
  have h1 : (coA r).2 = r := by simp [coA, nameM_bad h, passM_bad h, failM_bad h]
  have h2 : (coB r).2 = r := by simp [coB, h1, hasM_bad h]
  simp [coM, h2, hasM_bad h]

theorem columnOf_pc {r : R} (h : r.ok) : OneM Try.prog 43 [] r (coPV (coM r).1) (coM r).2 := by
  refine PC.intro tab_ok Try.func43 rfl (by kernel_rfl) Try.ntmps43 (Nat.le_of_ble_eq_true rfl) (rs := _) (congrArg Array.toList Try.results43) ?_
  refine PW.go tab_ok [] fun K hK => ?_
  simp only [go_sem, ↓reduceIte, reduceCtorEq, Nat.reduceBEq, Nat.reduceAdd, Nat.reduceMul, Nat.reduceSub, Nat.reduceLT, Nat.reduceLeDiff, Nat.reduceEqDiff]
  (refine hK _ _ ?_; (try clear hK); (try clear K))
  refine PW.go tab_ok [] fun K hK => ?_
  simp only [go_sem, ↓reduceIte, reduceCtorEq, Nat.reduceBEq, Nat.reduceAdd, Nat.reduceMul, Nat.reduceSub, Nat.reduceLT, Nat.reduceLeDiff, Nat.reduceEqDiff]
  refine (name_pc h).use 0 rfl (Weaks.refl _) rfl ?_; refine PO.go tab_ok [] ?_
  simp only [go_sem, ↓reduceIte, reduceCtorEq, Nat.reduceBEq, Nat.reduceAdd, Nat.reduceMul, Nat.reduceSub, Nat.reduceLT, Nat.reduceLeDiff, Nat.reduceEqDiff]
  (refine hK _ _ ?_; (try clear hK); (try clear K))
  refine PW.seq_k fun K0 hK0 => ?_
  refine PW.go tab_ok [] fun K hK => ?_
  simp only [go_sem, ↓reduceIte, reduceCtorEq, Nat.reduceBEq, Nat.reduceAdd, Nat.reduceMul, Nat.reduceSub, Nat.reduceLT, Nat.reduceLeDiff, Nat.reduceEqDiff]
  refine (pass_pc (ls := coOps) (by decide) (nameM_ok h)).use 0 rfl (Weaks.refl _) rfl ?_; refine PO.go tab_ok [] ?_
  simp only [go_sem, ↓reduceIte, reduceCtorEq, Nat.reduceBEq, Nat.reduceAdd, Nat.reduceMul, Nat.reduceSub, Nat.reduceLT, Nat.reduceLeDiff, Nat.reduceEqDiff]
  (refine hK _ _ ?_; (try clear hK); (try clear K))
  have hrest : ∀ {env : Env} {st : St}, Sub env [(0, .ref 0 0), (2, .ref 1 0), (3, .ref 2 0)] → st = ⟨[rPV (coA r).2, [.str [], .int .i64 0, .bool false, .bool false], [.str (nameM r).1, .int .i64 (coA r).1, .bool false, .bool false]], []⟩ → K0 env st := by
    rintro env st hsub rfl
    refine hK0 _ _ (PW.less _ hsub ?_)
    clear hK0 K0
    refine PW.seq_k fun K0 hK0 => ?_
    refine PW.go tab_ok [] fun K hK => ?_
    simp only [go_sem, ↓reduceIte, reduceCtorEq, Nat.reduceBEq, Nat.reduceAdd, Nat.reduceMul, Nat.reduceSub, Nat.reduceLT, Nat.reduceLeDiff, Nat.reduceEqDiff]
    refine (has_pc (s := sNOT) (coA_ok h)).use 0 rfl (Weaks.refl _) rfl ?_; refine PO.go tab_ok [] ?_
    simp only [go_sem, ↓reduceIte, reduceCtorEq, Nat.reduceBEq, Nat.reduceAdd, Nat.reduceMul, Nat.reduceSub, Nat.reduceLT, Nat.reduceLeDiff, Nat.reduceEqDiff]
    (refine hK _ _ ?_; (try clear hK); (try clear K))
    have hlast : ∀ {env : Env} {st : St}, Sub env [(0, .ref 0 0), (2, .ref 1 0), (3, .ref 2 0)] → st = ⟨[rPV (coB r).2, [.str [], .int .i64 0, .bool false, .bool false], [.str (nameM r).1, .int .i64 (coA r).1, .bool (coB r).1, .bool false]], []⟩ → K0 env st := by
      rintro env st hsub rfl
      refine hK0 _ _ (PW.less _ hsub ?_)
      clear hK0 K0
      refine PW.go tab_ok [] fun K hK => ?_
      simp only [go_sem, ↓reduceIte, reduceCtorEq, Nat.reduceBEq, Nat.reduceAdd, Nat.reduceMul, Nat.reduceSub, Nat.reduceLT, Nat.reduceLeDiff, Nat.reduceEqDiff]
      refine (has_pc (s := sUNIQUE) (coB_ok h)).use 0 rfl (Weaks.refl _) rfl ?_; refine PO.go tab_ok [] ?_
      simp only [go_sem, ↓reduceIte, reduceCtorEq, Nat.reduceBEq, Nat.reduceAdd, Nat.reduceMul, Nat.reduceSub, Nat.reduceLT, Nat.reduceLeDiff, Nat.reduceEqDiff]
      (refine hK _ _ ?_; (try clear hK); (try clear K))
      (repeat (refine PW.go tab_ok [] fun K hK => ?_; simp only [go_sem, ↓reduceIte, reduceCtorEq, Nat.reduceBEq, Nat.reduceAdd, Nat.reduceMul, Nat.reduceSub, Nat.reduceLT, Nat.reduceLeDiff, Nat.reduceEqDiff]; (refine hK _ _ ?_; clear hK K)))
      exact PW.ret (OneM.fin (r' := (coM r).2) (.inl rfl) rfl rfl (.refl _) rfl)
    refine PW.cond_split (b := (hasM sNOT (coA r).2).1) rfl ?_ ?_ <;> intro hb
    · refine PW.go tab_ok [] fun K hK => ?_
      simp only [go_sem, ↓reduceIte, reduceCtorEq, Nat.reduceBEq, Nat.reduceAdd, Nat.reduceMul, Nat.reduceSub, Nat.reduceLT, Nat.reduceLeDiff, Nat.reduceEqDiff]
      (refine hK _ _ ?_; (try clear hK); (try clear K))
      refine PW.goL tab_ok [] fun K hK => ?_
      simp only [go_sem, ↓reduceIte, reduceCtorEq, Nat.reduceBEq, Nat.reduceAdd, Nat.reduceMul, Nat.reduceSub, Nat.reduceLT, Nat.reduceLeDiff, Nat.reduceEqDiff]
      refine (must_pc (ls := [sNULL]) (by decide) (hasM_ok (coA_ok h))).use 0 rfl (Weaks.refl _) rfl ?_; refine PO.go tab_ok [] ?_
      simp only [go_sem, ↓reduceIte, reduceCtorEq, Nat.reduceBEq, Nat.reduceAdd, Nat.reduceMul, Nat.reduceSub, Nat.reduceLT, Nat.reduceLeDiff, Nat.reduceEqDiff]
      (refine hK _ _ ?_; (try clear hK); (try clear K))
      exact hlast (by simp [Sub, eget]) (by simp [coB, hb])
    · exact PW.skip (hlast (by simp [Sub, eget]) (by simp [coB, hb]))
  refine PW.block ?_
  refine PW.go tab_ok [] fun K hK => ?_
  simp only [go_sem, ↓reduceIte, reduceCtorEq, Nat.reduceBEq, Nat.reduceAdd, Nat.reduceMul, Nat.reduceSub, Nat.reduceLT, Nat.reduceLeDiff, Nat.reduceEqDiff]
  (refine hK _ _ ?_; (try clear hK); (try clear K))
  refine PW.cond_split (b := (passM coOps (nameM r).2).1 == -1) rfl ?_ ?_ <;> intro hb
  · have hk : (passM coOps (nameM r).2).1 = -1 := by simpa using hb
    refine PW.goL tab_ok [] fun K hK => ?_
    simp only [go_sem, ↓reduceIte, reduceCtorEq, Nat.reduceBEq, Nat.reduceAdd, Nat.reduceMul, Nat.reduceSub, Nat.reduceLT, Nat.reduceLeDiff, Nat.reduceEqDiff]
    refine (fail_pc' (passM_ok (nameM_ok h)) 4).use 0 rfl (Weaks.refl _) rfl ?_; refine PO.go tab_ok [] ?_
    simp only [go_sem, ↓reduceIte, reduceCtorEq, Nat.reduceBEq, Nat.reduceAdd, Nat.reduceMul, Nat.reduceSub, Nat.reduceLT, Nat.reduceLeDiff, Nat.reduceEqDiff]
    (refine hK _ _ ?_; (try clear hK); (try clear K))
    exact hrest (by simp [Sub, eget]) (by simp [coA, hk])
  have hk : ¬ (passM coOps (nameM r).2).1 = -1 := by simpa using hb
  refine PW.go tab_ok [] fun K hK => ?_
  simp only [go_sem, ↓reduceIte, reduceCtorEq, Nat.reduceBEq, Nat.reduceAdd, Nat.reduceMul, Nat.reduceSub, Nat.reduceLT, Nat.reduceLeDiff, Nat.reduceEqDiff]
  (refine hK _ _ ?_; (try clear hK); (try clear K))
  refine PW.cond_split (b := (passM coOps (nameM r).2).1 == 1) rfl ?_ ?_ <;> intro hb2
  · have hk2 : (passM coOps (nameM r).2).1 = 1 := by simpa using hb2
    refine PW.goL tab_ok [] fun K hK => ?_
    simp only [go_sem, ↓reduceIte, reduceCtorEq, Nat.reduceBEq, Nat.reduceAdd, Nat.reduceMul, Nat.reduceSub, Nat.reduceLT, Nat.reduceLeDiff, Nat.reduceEqDiff]
    (refine hK _ _ ?_; (try clear hK); (try clear K))
    exact hrest (by simp [Sub, eget]) (by simp [coA, hk2])
  · have hk2 : ¬ (passM coOps (nameM r).2).1 = 1 := by simpa using hb2
    exact PW.skip (hrest (by simp [Sub, eget]) (by simp [coA, hk, hk2]))

/-- An optional expression. -/
def optPV : Option Ex → PV
  | none => nilPV
  | some e => .list 8 [exPV e] .no
theorem opt_clean (x : Option Ex) : PV.clean 0 0 (optPV x) = true := by cases x <;> simp [optPV, nilPV, PV.clean, PVs.clean, exPV_clean]
theorem opt_weak (x : Option Ex) : Weak (optPV x) (.list 8 (exPVs x.toList) .no) := by
  cases x with
  | none => exact Weak.nil _ _ _
  | some e => exact .refl _
theorem opt_isCell (x : Option Ex) : (optPV x).isCell = true := by cases x <;> rfl
theorem opt_cells (x : Option Ex) : (optPV x).cells = [optPV x] := by cases x <;> rfl
theorem opt_isAgg (x : Option Ex) : (optPV x).isAgg = false := by cases x <;> rfl
attribute [go_sem] opt_isCell opt_cells opt_isAgg
def maybeM (w : Str) (r : R) : Option Ex × R := if (hasM w r).1 then (some (exprM (hasM w r).2).1, (exprM (hasM w r).2).2) else (none, (hasM w r).2)
theorem maybeM_ok {w : Str} {r : R} (h : r.ok) : (maybeM w r).2.ok := by
  unfold maybeM
  split
  · exact exprM_sh.ok _ (hasM_ok h)
  · exact hasM_ok h
theorem maybeM_d (w : Str) (r : R) : (maybeM w r).2.d = r.d := by
  unfold maybeM
  split
  · exact (exprM_sh.dd _).trans (hasM_d _ _)
  · exact hasM_d _ _
theorem maybe_pc {w : Str} {r : R} (h : r.ok) (hd : r.d = 0) : OneM Try.prog 48 [.str w] r (optPV (maybeM w r).1) (maybeM w r).2 := by
  refine PC.intro tab_ok Try.func48 rfl (by kernel_rfl) Try.ntmps48 (Nat.le_of_ble_eq_true rfl) (rs := _) (congrArg Array.toList Try.results48) ?_
  refine PW.go tab_ok [] fun K hK => ?_
  simp only [go_sem, ↓reduceIte, reduceCtorEq, Nat.reduceBEq, Nat.reduceAdd, Nat.reduceMul, Nat.reduceSub, Nat.reduceLT, Nat.reduceLeDiff, Nat.reduceEqDiff]
  (refine hK _ _ ?_; (try clear hK); (try clear K))
  refine PW.seq_k fun K0 hK0 => ?_
  refine PW.go tab_ok [] fun K hK => ?_
  simp only [go_sem, ↓reduceIte, reduceCtorEq, Nat.reduceBEq, Nat.reduceAdd, Nat.reduceMul, Nat.reduceSub, Nat.reduceLT, Nat.reduceLeDiff, Nat.reduceEqDiff]
  refine (has_pc (s := w) h).use 0 rfl (Weaks.refl _) rfl ?_; refine PO.go tab_ok [] ?_
  simp only [go_sem, ↓reduceIte, reduceCtorEq, Nat.reduceBEq, Nat.reduceAdd, Nat.reduceMul, Nat.reduceSub, Nat.reduceLT, Nat.reduceLeDiff, Nat.reduceEqDiff]
  (refine hK _ _ ?_; (try clear hK); (try clear K))
  refine PW.cond_split (b := !(hasM w r).1) rfl ?_ ?_ <;> intro hb
  · refine PW.go tab_ok [] fun K hK => ?_
    simp only [go_sem, ↓reduceIte, reduceCtorEq, Nat.reduceBEq, Nat.reduceAdd, Nat.reduceMul, Nat.reduceSub, Nat.reduceLT, Nat.reduceLeDiff, Nat.reduceEqDiff]
    (refine hK _ _ ?_; (try clear hK); (try clear K))
    have hb' : (hasM w r).1 = false := by simpa using hb
    refine PW.ret (OneM.fin (r' := (maybeM w r).2) (.inl rfl) rfl ?_ ?_ (opt_clean _))
    · simp [maybeM, hb']
    · simp only [maybeM, hb', resPV]
      exact .refl _
  · have hb' : (hasM w r).1 = true := by simpa using hb
    refine PW.skip (hK0 _ _ ?_); clear hK0 K0
    refine PW.go tab_ok [] fun K hK => ?_
    simp only [go_sem, ↓reduceIte, reduceCtorEq, Nat.reduceBEq, Nat.reduceAdd, Nat.reduceMul, Nat.reduceSub, Nat.reduceLT, Nat.reduceLeDiff, Nat.reduceEqDiff]
    refine (expr_pc (hasM_ok h) (by rw [hasM_d, hd])).use 0 rfl (Weaks.refl _) rfl ?_; refine PO.go tab_ok [] ?_
    simp only [go_sem, ↓reduceIte, reduceCtorEq, Nat.reduceBEq, Nat.reduceAdd, Nat.reduceMul, Nat.reduceSub, Nat.reduceLT, Nat.reduceLeDiff, Nat.reduceEqDiff]
    (refine hK _ _ ?_; (try clear hK); (try clear K))
    refine PW.ret (OneM.fin (r' := (maybeM w r).2) (.inl rfl) rfl ?_ ?_ (opt_clean _))
    · simp [maybeM, hb']
    · simp only [maybeM, hb', resPV]
      exact .refl _
def byM (w : Str) (r : R) : Option Ex × R := if (hasM w r).1 then (some (colM (mustM [[66, 89]] (hasM w r).2)).1, (colM (mustM [[66, 89]] (hasM w r).2)).2) else (none, (hasM w r).2)
theorem byM_ok {w : Str} {r : R} (h : r.ok) : (byM w r).2.ok := by
  unfold byM
  split
  · exact colM_sh.ok _ (mustM_ok (hasM_ok h))
  · exact hasM_ok h
theorem byM_d (w : Str) (r : R) : (byM w r).2.d = r.d := by
  unfold byM
  split
  · exact (colM_sh.dd _).trans ((mustM_d _ _).trans (hasM_d _ _))
  · exact hasM_d _ _
theorem by_pc {w : Str} {r : R} (h : r.ok) : OneM Try.prog 51 [.str w] r (optPV (byM w r).1) (byM w r).2 := by
  refine PC.intro tab_ok Try.func51 rfl (by kernel_rfl) Try.ntmps51 (Nat.le_of_ble_eq_true rfl) (rs := _) (congrArg Array.toList Try.results51) ?_
  refine PW.go tab_ok [] fun K hK => ?_
  simp only [go_sem, ↓reduceIte, reduceCtorEq, Nat.reduceBEq, Nat.reduceAdd, Nat.reduceMul, Nat.reduceSub, Nat.reduceLT, Nat.reduceLeDiff, Nat.reduceEqDiff]
  (refine hK _ _ ?_; (try clear hK); (try clear K))
  refine PW.seq_k fun K0 hK0 => ?_
  refine PW.go tab_ok [] fun K hK => ?_
  simp only [go_sem, ↓reduceIte, reduceCtorEq, Nat.reduceBEq, Nat.reduceAdd, Nat.reduceMul, Nat.reduceSub, Nat.reduceLT, Nat.reduceLeDiff, Nat.reduceEqDiff]
  refine (has_pc (s := w) h).use 0 rfl (Weaks.refl _) rfl ?_; refine PO.go tab_ok [] ?_
  simp only [go_sem, ↓reduceIte, reduceCtorEq, Nat.reduceBEq, Nat.reduceAdd, Nat.reduceMul, Nat.reduceSub, Nat.reduceLT, Nat.reduceLeDiff, Nat.reduceEqDiff]
  (refine hK _ _ ?_; (try clear hK); (try clear K))
  refine PW.cond_split (b := !(hasM w r).1) rfl ?_ ?_ <;> intro hb
  · refine PW.go tab_ok [] fun K hK => ?_
    simp only [go_sem, ↓reduceIte, reduceCtorEq, Nat.reduceBEq, Nat.reduceAdd, Nat.reduceMul, Nat.reduceSub, Nat.reduceLT, Nat.reduceLeDiff, Nat.reduceEqDiff]
    (refine hK _ _ ?_; (try clear hK); (try clear K))
    have hb' : (hasM w r).1 = false := by simpa using hb
    refine PW.ret (OneM.fin (r' := (byM w r).2) (.inl rfl) rfl ?_ ?_ (opt_clean _))
    · simp [byM, hb']
    · simp only [byM, hb', resPV]
      exact .refl _
  · have hb' : (hasM w r).1 = true := by simpa using hb
    refine PW.skip (hK0 _ _ ?_); clear hK0 K0
    refine PW.go tab_ok [] fun K hK => ?_
    simp only [go_sem, ↓reduceIte, reduceCtorEq, Nat.reduceBEq, Nat.reduceAdd, Nat.reduceMul, Nat.reduceSub, Nat.reduceLT, Nat.reduceLeDiff, Nat.reduceEqDiff]
    refine (must_pc (ls := [[66, 89]]) (by decide) (hasM_ok h)).use 0 rfl (Weaks.refl _) rfl ?_; refine PO.go tab_ok [] ?_
    simp only [go_sem, ↓reduceIte, reduceCtorEq, Nat.reduceBEq, Nat.reduceAdd, Nat.reduceMul, Nat.reduceSub, Nat.reduceLT, Nat.reduceLeDiff, Nat.reduceEqDiff]
    (refine hK _ _ ?_; (try clear hK); (try clear K))
    refine PW.go tab_ok [] fun K hK => ?_
    simp only [go_sem, ↓reduceIte, reduceCtorEq, Nat.reduceBEq, Nat.reduceAdd, Nat.reduceMul, Nat.reduceSub, Nat.reduceLT, Nat.reduceLeDiff, Nat.reduceEqDiff]
    refine (column_pc (mustM_ok (hasM_ok h))).use 0 rfl (Weaks.refl _) rfl ?_; refine PO.go tab_ok [] ?_
    simp only [go_sem, ↓reduceIte, reduceCtorEq, Nat.reduceBEq, Nat.reduceAdd, Nat.reduceMul, Nat.reduceSub, Nat.reduceLT, Nat.reduceLeDiff, Nat.reduceEqDiff]
    (refine hK _ _ ?_; (try clear hK); (try clear K))
    refine PW.ret (OneM.fin (r' := (byM w r).2) (.inl rfl) rfl ?_ ?_ (opt_clean _))
    · simp [byM, hb']
    · simp only [byM, hb', resPV]
      exact .refl _
end Go.Proofs.Ytolhbjfaahcekaa
end
section
/- The parser's statements: rows of literals, items, and those that read no row of theirs. -/
set_option linter.unusedVariables false
set_option linter.unusedSimpArgs false
namespace Go.Proofs.Ytolhbjfaahcekaa
open Go

/-! ### A row of literals -/
def tupOne (z : R × List Vl) : R × List Vl := (if (litM z.1).1.2 then (litM z.1).2 else failM 4 (litM z.1).2, z.2 ++ [(litM z.1).1.1])
def tupleM (r : R) : List Vl × R := ((manyM tupOne 8 (mustM [[40]] r, [])).2, mustM [[41]] (manyM tupOne 8 (mustM [[40]] r, [])).1)
def tupB (s : List Vl) : List (List PV) := [[.ref 0 0], [.list 3 (s.map vPV) (.own 0)]]
theorem tupOne_ok {q : R} (h : q.ok) (s : List Vl) : (tupOne (q, s)).1.ok := by
  unfold tupOne
  simp only
  split
  · exact litM_ok h
  · exact failM_ok (litM_ok h) 4
theorem litM_bad {r : R} (h : r.c ≠ 0) : litM r = ((v0, false), r) := by simp [litM, h]
theorem vs_len (s : List Vl) : (s.map vPV).length = s.length := by simp
theorem litM_cells (v : Vl) : (vPV v).cells = vC v := rfl
theorem tupleIn_pc {q : R} {s : List Vl} (h : q.ok) (hs : s.length ≤ 1000) : PC Try.prog 66 [.ref 1 0, .ref 2 0] ⟨rPV q :: tupB s, [s.length]⟩ fun x st' => x = .tup [] ∧ st' = ⟨rPV (tupOne (q, s)).1 :: tupB (tupOne (q, s)).2, [(tupOne (q, s)).2.length]⟩ := by
  unfold tupB
  refine PC.intro tab_ok Try.func66 rfl (by kernel_rfl) Try.ntmps66 (Nat.le_of_ble_eq_true rfl) (rs := _) (congrArg Array.toList Try.results66) ?_
  refine PW.go tab_ok [] fun K hK => ?_
  simp only [go_sem, ↓reduceIte, reduceCtorEq, Nat.reduceBEq, Nat.reduceAdd, Nat.reduceMul, Nat.reduceSub, Nat.reduceLT, Nat.reduceLeDiff, Nat.reduceEqDiff]
  refine (literal_pc h).use 0 rfl (Weaks.refl _) rfl ?_
  refine PO.go tab_ok [] ?_
  simp only [vC, go_sem, ↓reduceIte, reduceCtorEq, Nat.reduceBEq, Nat.reduceAdd, Nat.reduceMul, Nat.reduceSub, Nat.reduceLT, Nat.reduceLeDiff, Nat.reduceEqDiff]
  (refine hK _ _ ?_; (try clear hK); (try clear K))
  have hok := litM_ok h
  have hone : tupOne (q, s) = (if (litM q).1.2 then (litM q).2 else failM 4 (litM q).2, s ++ [(litM q).1.1]) := rfl
  generalize litM q = z at hok hone ⊢
  refine PW.seq_k fun K0 hK0 => ?_
  refine PW.go tab_ok [] fun K hK => ?_
  simp only [go_sem, ↓reduceIte, reduceCtorEq, Nat.reduceBEq, Nat.reduceAdd, Nat.reduceMul, Nat.reduceSub, Nat.reduceLT, Nat.reduceLeDiff, Nat.reduceEqDiff]
  (refine hK _ _ ?_; (try clear hK); (try clear K))
  have hlast : ∀ {env : Env} {st : St} (q' : R), Sub env [(1, .ref 2 0), (2, .ref 3 0)] → st = ⟨[rPV q', [.ref 0 0], [.list 3 (s.map vPV) (.own 0)], [.int .i64 z.1.1.k, .int .i64 z.1.1.n, .str z.1.1.t]], [s.length]⟩ → tupOne (q, s) = (q', s ++ [z.1.1]) → K0 env st := by
    rintro env st q' hsub rfl he
    refine hK0 _ _ (PW.less _ hsub ?_)
    clear hK0 K0
    have hfit : (s.length + 1) * 32 ≤ 140737488355328 := by omega
    have hmax : s.length + 1 ≤ maxLen := by unfold maxLen; omega
    refine PW.goL tab_ok [] fun K hK => ?_
    simp only [hfit, hmax, go_sem, ↓reduceIte, reduceCtorEq, Nat.reduceBEq, Nat.reduceAdd, Nat.reduceMul, Nat.reduceSub, Nat.reduceLT, Nat.reduceLeDiff, Nat.reduceEqDiff]
    (refine hK _ _ ?_; (try clear hK); (try clear K))
    refine ⟨.inr rfl, _, .tup [], ⟨rPV q' :: tupB (s ++ [z.1.1]), [s.length + 1]⟩, rfl, .refl _, ?_, ?_, ?_, rfl, rfl, ?_⟩
    · refine ⟨?_, rfl, ?_⟩
      · simp [tupB, Weaks.refl, vPV, vC, PV.isCell, r_all, rPV, rdPV]
      · simp [tupB, PVs.clean, PV.clean, PVs.clean_data (r_clean q'), clean_map (v_clean 3 1)]
        rw [PVs.clean_append, clean_map (v_clean 3 1)]
        rfl
    · simp [tupB]
    · simp
    · rw [he]
      simp [tupB]
  refine PW.cond_split (b := !z.1.2) rfl ?_ ?_ <;> intro hb
  · have hz : z.1.2 = false := by simpa using hb
    refine PW.goL tab_ok [] fun K hK => ?_
    simp only [go_sem, ↓reduceIte, reduceCtorEq, Nat.reduceBEq, Nat.reduceAdd, Nat.reduceMul, Nat.reduceSub, Nat.reduceLT, Nat.reduceLeDiff, Nat.reduceEqDiff]
    refine (fail_pc' hok 4).use 0 rfl (Weaks.refl _) rfl ?_; refine PO.go tab_ok [] ?_
    simp only [go_sem, ↓reduceIte, reduceCtorEq, Nat.reduceBEq, Nat.reduceAdd, Nat.reduceMul, Nat.reduceSub, Nat.reduceLT, Nat.reduceLeDiff, Nat.reduceEqDiff]
    (refine hK _ _ ?_; (try clear hK); (try clear K))
    exact hlast (failM 4 z.2) (by simp [Sub, eget]) rfl (by rw [hone, hz]; rfl)
  · have hz : z.1.2 = true := by simpa using hb
    exact PW.skip (hlast z.2 (by simp [Sub, eget]) rfl (by rw [hone, hz]; rfl))
theorem tup_reads : Reads (List Vl) 66 [.ref 1 0, .ref 2 0] tupOne tupB (fun s => [s.length]) (fun m q s => q.ok ∧ s.length + m ≤ 100) 2 1 where
  pc := fun m q s h => tupleIn_pc h.1 (by omega)
  nb := fun _ => rfl
  nl := fun _ => rfl
  ok := fun m q s h => h.1
  aft := fun m q s h => tupOne_ok h.1 s
  good := fun s q => by
    refine StOk.mk' fun cs hc => ?_
    simp only [tupB, List.mem_cons, List.not_mem_nil, or_false] at hc
    rcases hc with rfl | rfl | rfl
    · exact ⟨r_all q, PVs.clean_data (r_clean q)⟩
    · exact ⟨rfl, rfl⟩
    · refine ⟨rfl, ?_⟩
      simp only [PVs.clean, PV.clean, clean_map (v_clean _ _)]
      rfl
  next := fun m q s h => ⟨hasM_ok (tupOne_ok h.1 s), by simp [tupOne]; omega⟩
  fail := fun q s h => ⟨failM_ok h.1 2, h.2⟩
  bad := fun q s h hc => by simp [tupOne, litM_bad hc, failM_bad hc, hc]
theorem many_ok {σ : Type} {one : R × σ → R × σ} (h1 : ∀ q s, q.ok → (one (q, s)).1.ok) : ∀ (m : Nat) (q : R) (s : σ), q.ok → (manyM one m (q, s)).1.ok
  | 0, q, s, h => hasM_ok (h1 _ _ (failM_ok h 2))
  | m + 1, q, s, h => by
    unfold manyM
    split
    · exact many_ok h1 m _ _ (hasM_ok (h1 _ _ h))
    · exact hasM_ok (h1 _ _ h)
theorem many_d {σ : Type} {one : R × σ → R × σ} (h1 : ∀ q s, (one (q, s)).1.d = q.d) : ∀ (m : Nat) (q : R) (s : σ), (manyM one m (q, s)).1.d = q.d
  | 0, q, s => by
    show (hasM [44] (one (failM 2 q, s)).1).2.d = q.d
    rw [hasM_d, h1, failM_d]
  | m + 1, q, s => by
    unfold manyM
    split
    · rw [many_d h1 m _ _, hasM_d, h1]
    · rw [hasM_d, h1]
theorem tupOne_d (q : R) (s : List Vl) : (tupOne (q, s)).1.d = q.d := by
  unfold tupOne
  simp only
  split
  · exact litM_d q
  · rw [failM_d, litM_d]
theorem tupleM_ok {r : R} (h : r.ok) : (tupleM r).2.ok := mustM_ok (many_ok (fun q s h => tupOne_ok h s) 8 _ _ (mustM_ok h))
theorem tupleM_d (r : R) : (tupleM r).2.d = r.d := by simp only [tupleM, mustM_d, many_d tupOne_d]
theorem tupleM_bad {r : R} (h : r.c ≠ 0) : (tupleM r).2 = r := by
  have h1 : ∀ s, tupOne (r, s) = (r, s ++ [v0]) := fun s => by simp [tupOne, litM_bad h, failM_bad h]
  have h2 : manyM tupOne 8 (r, []) = (r, [v0]) := by simp [manyM, h1, hasM_bad h]
  simp [tupleM, mustM_bad h, h2]
theorem tuple_pc {r : R} (h : r.ok) : OneM Try.prog 46 [] r (rowPV (tupleM r).1) (tupleM r).2 := by
  refine PC.intro tab_ok Try.func46 rfl (by kernel_rfl) Try.ntmps46 (Nat.le_of_ble_eq_true rfl) (rs := _) (congrArg Array.toList Try.results46) ?_
  (repeat (refine PW.go tab_ok [] fun K hK => ?_; simp only [go_sem, ↓reduceIte, reduceCtorEq, Nat.reduceBEq, Nat.reduceAdd, Nat.reduceMul, Nat.reduceSub, Nat.reduceLT, Nat.reduceLeDiff, Nat.reduceEqDiff]; (refine hK _ _ ?_; clear hK K)))
  refine PW.go tab_ok [] fun K hK => ?_
  simp only [go_sem, ↓reduceIte, reduceCtorEq, Nat.reduceBEq, Nat.reduceAdd, Nat.reduceMul, Nat.reduceSub, Nat.reduceLT, Nat.reduceLeDiff, Nat.reduceEqDiff]
  refine (must_pc (ls := [[40]]) (by decide) h).use 0 rfl (Weaks.refl _) rfl ?_; refine PO.go tab_ok [] ?_
  simp only [go_sem, ↓reduceIte, reduceCtorEq, Nat.reduceBEq, Nat.reduceAdd, Nat.reduceMul, Nat.reduceSub, Nat.reduceLT, Nat.reduceLeDiff, Nat.reduceEqDiff]
  (refine hK _ _ ?_; (try clear hK); (try clear K))
  have h1 := mustM_ok (ls := [[40]]) h
  have hz : tupleM r = ((manyM tupOne 8 (mustM [[40]] r, [])).2, mustM [[41]] (manyM tupOne 8 (mustM [[40]] r, [])).1) := rfl
  have hok := many_ok (fun q s h => tupOne_ok h s) 8 _ ([] : List Vl) h1
  generalize mustM [[40]] r = q at h1 hz hok ⊢
  refine PW.adopt ?_
  refine PW.forget [(3, .ref 2 0), (1, .ref 1 0), (0, .ref 0 0)] ⟨rPV q :: tupB [], [0]⟩ (by simp [Sub, eget]) ⟨?_, rfl, (tup_reads.good [] q).clean⟩ rfl (Nat.le_refl _) (Nat.le_refl _) ?_
  · simp [tupB, Weaks.refl, Weak.nil, PV.isCell, r_all, rPV, rdPV]
  refine PW.go tab_ok [] fun K hK => ?_
  simp only [tupB, go_sem, ↓reduceIte, reduceCtorEq, Nat.reduceBEq, Nat.reduceAdd, Nat.reduceMul, Nat.reduceSub, Nat.reduceLT, Nat.reduceLeDiff, Nat.reduceEqDiff]
  refine (many_pc tup_reads 8 (by omega) (q0 := q) (s0 := []) ⟨h1, by simp⟩ rfl).mono ?_
  rintro x st' ⟨rfl, rfl⟩
  generalize manyM tupOne 8 (q, []) = z at hz hok ⊢
  refine PO.go tab_ok [] ?_
  simp only [tupB, go_sem, ↓reduceIte, reduceCtorEq, Nat.reduceBEq, Nat.reduceAdd, Nat.reduceMul, Nat.reduceSub, Nat.reduceLT, Nat.reduceLeDiff, Nat.reduceEqDiff]
  (refine hK _ _ ?_; (try clear hK); (try clear K))
  refine PW.go tab_ok [] fun K hK => ?_
  simp only [go_sem, ↓reduceIte, reduceCtorEq, Nat.reduceBEq, Nat.reduceAdd, Nat.reduceMul, Nat.reduceSub, Nat.reduceLT, Nat.reduceLeDiff, Nat.reduceEqDiff]
  refine (must_pc (ls := [[41]]) (by decide) hok).use 0 rfl (Weaks.refl _) rfl ?_; refine PO.go tab_ok [] ?_
  simp only [go_sem, ↓reduceIte, reduceCtorEq, Nat.reduceBEq, Nat.reduceAdd, Nat.reduceMul, Nat.reduceSub, Nat.reduceLT, Nat.reduceLeDiff, Nat.reduceEqDiff]
  (refine hK _ _ ?_; (try clear hK); (try clear K))
  (repeat (refine PW.go tab_ok [] fun K hK => ?_; simp only [go_sem, ↓reduceIte, reduceCtorEq, Nat.reduceBEq, Nat.reduceAdd, Nat.reduceMul, Nat.reduceSub, Nat.reduceLT, Nat.reduceLeDiff, Nat.reduceEqDiff]; (refine hK _ _ ?_; clear hK K)))
  refine PW.ret (OneM.fin (r' := (tupleM r).2) (.inl rfl) rfl ?_ ?_ (row_clean 0 0 _))
  · rw [hz]
  · rw [hz]
    exact Weak.no _ _ _
end Go.Proofs.Ytolhbjfaahcekaa
end
section
/- The parser's statements: items; drop, remove. -/
set_option linter.unusedVariables false
set_option linter.unusedSimpArgs false
namespace Go.Proofs.Ytolhbjfaahcekaa
open Go

def itOps : List Str := [[67, 79, 85, 78, 84], [83, 85, 77], [77, 73, 78], [77, 65, 88], [42]]
def itArg (k : Int) (r : R) : Itm × R := (⟨k, [(exprM r).1]⟩, mustM [[41]] (exprM r).2)
def itemM (r : R) : Itm × R :=
  if (passM itOps r).1 < 0 then (⟨2, [(exprM (passM itOps r).2).1]⟩, (exprM (passM itOps r).2).2)
  else if (passM itOps r).1 = 4 then (⟨1, []⟩, (passM itOps r).2)
  else if (passM itOps r).1 > 0 then itArg (4 + (passM itOps r).1) (mustM [[40]] (passM itOps r).2)
  else if (hasM [42] (mustM [[40]] (passM itOps r).2)).1 then (⟨3, []⟩, mustM [[41]] (hasM [42] (mustM [[40]] (passM itOps r).2)).2)
  else itArg (4 + (passM itOps r).1) (hasM [42] (mustM [[40]] (passM itOps r).2)).2
theorem itemM_ok {r : R} (h : r.ok) : (itemM r).2.ok := by
  have h1 := passM_ok (ls := itOps) h
  have h2 := mustM_ok (ls := [[40]]) h1
  unfold itemM
  (repeat' split)
  · exact exprM_sh.ok _ h1
  · exact h1
  · exact mustM_ok (exprM_sh.ok _ h2)
  · exact mustM_ok (hasM_ok h2)
  · exact mustM_ok (exprM_sh.ok _ (hasM_ok h2))
theorem itemM_d (r : R) : (itemM r).2.d = r.d := by
  unfold itemM
  (repeat' split) <;> simp only [itArg, exprM_sh.dd, mustM_d, hasM_d, passM_d]
theorem it_weak (k : Int) (l : List Ex) (t : Tk) : Weak (.agg [.int .i64 k, .list 8 (exPVs l) t]) (itPV ⟨k, l⟩) :=
  Weak.agg (.cons (.refl _) (.cons (Weak.no _ _ _) .nil)) (by simp [PV.isCell])
theorem it_weak0 (k : Int) : Weak (.agg [.int .i64 k, .list 0 [] .nil]) (itPV ⟨k, []⟩) :=
  Weak.agg (.cons (.refl _) (.cons (Weak.nil _ _ _) .nil)) (by simp [exPVs, PV.isCell])
theorem item_pc {r : R} (h : r.ok) (hd : r.d = 0) : OneM Try.prog 50 [] r (itPV (itemM r).1) (itemM r).2 := by
  have h1 := passM_ok (ls := itOps) h
  have hd1 : (passM itOps r).2.d = 0 := by rw [passM_d, hd]
  have hlt : (passM itOps r).1 < 5 := passM_lt_len itOps r
  have hz : itemM r = itemM r := rfl
  conv at hz => rhs; unfold itemM
  refine PC.intro tab_ok Try.func50 rfl (by kernel_rfl) Try.ntmps50 (Nat.le_of_ble_eq_true rfl) (rs := _) (congrArg Array.toList Try.results50) ?_
  (repeat (refine PW.go tab_ok [] fun K hK => ?_; simp only [go_sem, ↓reduceIte, reduceCtorEq, Nat.reduceBEq, Nat.reduceAdd, Nat.reduceMul, Nat.reduceSub, Nat.reduceLT, Nat.reduceLeDiff, Nat.reduceEqDiff]; (refine hK _ _ ?_; clear hK K)))
  refine PW.go tab_ok [] fun K hK => ?_
  simp only [go_sem, ↓reduceIte, reduceCtorEq, Nat.reduceBEq, Nat.reduceAdd, Nat.reduceMul, Nat.reduceSub, Nat.reduceLT, Nat.reduceLeDiff, Nat.reduceEqDiff]
  refine (pass_pc (ls := itOps) (by decide) h).use 0 rfl (Weaks.refl _) rfl ?_; refine PO.go tab_ok [] ?_
  simp only [go_sem, ↓reduceIte, reduceCtorEq, Nat.reduceBEq, Nat.reduceAdd, Nat.reduceMul, Nat.reduceSub, Nat.reduceLT, Nat.reduceLeDiff, Nat.reduceEqDiff]
  (refine hK _ _ ?_; (try clear hK); (try clear K))
  generalize passM itOps r = z at h1 hd1 hlt hz ⊢
  obtain ⟨k, q⟩ := z
  simp only at h1 hd1 hlt hz ⊢
  refine PW.seq_k fun K0 hK0 => ?_
  refine PW.block ?_
  refine PW.go tab_ok [] fun K hK => ?_
  simp only [go_sem, ↓reduceIte, reduceCtorEq, Nat.reduceBEq, Nat.reduceAdd, Nat.reduceMul, Nat.reduceSub, Nat.reduceLT, Nat.reduceLeDiff, Nat.reduceEqDiff]
  (refine hK _ _ ?_; (try clear hK); (try clear K))
  refine PW.cond_split (b := decide (k < 0)) rfl ?_ ?_ <;> intro hb
  · have hk : k < 0 := by simpa using hb
    rw [if_pos hk] at hz
    refine PW.go tab_ok [] fun K hK => ?_
    simp only [go_sem, ↓reduceIte, reduceCtorEq, Nat.reduceBEq, Nat.reduceAdd, Nat.reduceMul, Nat.reduceSub, Nat.reduceLT, Nat.reduceLeDiff, Nat.reduceEqDiff]
    refine (expr_pc h1 hd1).use 0 rfl (Weaks.refl _) rfl ?_; refine PO.go tab_ok [] ?_
    simp only [go_sem, ↓reduceIte, reduceCtorEq, Nat.reduceBEq, Nat.reduceAdd, Nat.reduceMul, Nat.reduceSub, Nat.reduceLT, Nat.reduceLeDiff, Nat.reduceEqDiff]
    (refine hK _ _ ?_; (try clear hK); (try clear K))
    refine PW.ret (OneM.fin (r' := (itemM r).2) (.inl rfl) rfl ?_ ?_ (it_clean 0 0 _))
    · rw [hz]
    · rw [hz]
      exact it_weak 2 [(exprM q).1] .no
  have hk : ¬ k < 0 := by simpa using hb
  rw [if_neg hk] at hz
  refine PW.go tab_ok [] fun K hK => ?_
  simp only [go_sem, ↓reduceIte, reduceCtorEq, Nat.reduceBEq, Nat.reduceAdd, Nat.reduceMul, Nat.reduceSub, Nat.reduceLT, Nat.reduceLeDiff, Nat.reduceEqDiff]
  (refine hK _ _ ?_; (try clear hK); (try clear K))
  refine PW.cond_split (b := k == 4) rfl ?_ ?_ <;> intro hb2
  · have hk2 : k = 4 := by simpa using hb2
    rw [if_pos hk2] at hz
    (repeat (refine PW.go tab_ok [] fun K hK => ?_; simp only [go_sem, ↓reduceIte, reduceCtorEq, Nat.reduceBEq, Nat.reduceAdd, Nat.reduceMul, Nat.reduceSub, Nat.reduceLT, Nat.reduceLeDiff, Nat.reduceEqDiff]; (refine hK _ _ ?_; clear hK K)))
    refine PW.ret (OneM.fin (r' := (itemM r).2) (.inl rfl) rfl ?_ ?_ (it_clean 0 0 _))
    · rw [hz]
    · rw [hz]
      exact it_weak0 1
  have hk2 : ¬ k = 4 := by simpa using hb2
  rw [if_neg hk2] at hz
  refine PW.skip (hK0 _ _ ?_); clear hK0 K0
  have hw : IntKind.i64.wrap (4 + k) = 4 + k := wrap_small (by omega) (by omega)
  refine PW.go tab_ok [] fun K hK => ?_
  simp only [go_sem, ↓reduceIte, reduceCtorEq, Nat.reduceBEq, Nat.reduceAdd, Nat.reduceMul, Nat.reduceSub, Nat.reduceLT, Nat.reduceLeDiff, Nat.reduceEqDiff]
  refine (must_pc (ls := [[40]]) (by decide) h1).use 0 rfl (Weaks.refl _) rfl ?_; refine PO.go tab_ok [] ?_
  simp only [go_sem, ↓reduceIte, reduceCtorEq, Nat.reduceBEq, Nat.reduceAdd, Nat.reduceMul, Nat.reduceSub, Nat.reduceLT, Nat.reduceLeDiff, Nat.reduceEqDiff]
  (refine hK _ _ ?_; (try clear hK); (try clear K))
  have h2 := mustM_ok (ls := [[40]]) h1
  have hd2 : (mustM [[40]] q).d = 0 := by rw [mustM_d, hd1]
  generalize mustM [[40]] q = p at h2 hd2 hz ⊢
  (repeat (refine PW.go tab_ok [] fun K hK => ?_; simp only [go_sem, ↓reduceIte, reduceCtorEq, Nat.reduceBEq, Nat.reduceAdd, Nat.reduceMul, Nat.reduceSub, Nat.reduceLT, Nat.reduceLeDiff, Nat.reduceEqDiff]; (refine hK _ _ ?_; clear hK K)))
  refine PW.seq_k fun K0 hK0 => ?_
  have hlast : ∀ {env : Env} {st : St} (p' : R) (k' : Int) (cs : List PV), Sub env [(0, .ref 0 0), (2, .ref 1 0), (4, .ref 2 0)] → st = ⟨[rPV p', [.int .i64 0, .list 0 [] .nil], cs], []⟩ → p'.ok → cs.length = 2 → cs.all PV.isCell = true → (itemM r).2 = mustM [[41]] p' → Weak (.agg cs) (itPV (itemM r).1) → K0 env st := by
    rintro env st p' k' cs hsub rfl hp' hl hall he hwk
    obtain ⟨c1, c2, rfl⟩ : ∃ c1 c2, cs = [c1, c2] := by
      match cs, hl with
      | [c1, c2], _ => exact ⟨c1, c2, rfl⟩
    simp only [List.all_cons, List.all_nil, Bool.and_true, Bool.and_eq_true] at hall
    refine hK0 _ _ (PW.less _ hsub ?_)
    clear hK0 K0
    refine PW.go tab_ok [] fun K hK => ?_
    simp only [go_sem, ↓reduceIte, reduceCtorEq, Nat.reduceBEq, Nat.reduceAdd, Nat.reduceMul, Nat.reduceSub, Nat.reduceLT, Nat.reduceLeDiff, Nat.reduceEqDiff]
    refine (must_pc (ls := [[41]]) (by decide) hp').use 0 rfl (Weaks.refl _) rfl ?_; refine PO.go tab_ok [] ?_
    simp only [go_sem, ↓reduceIte, reduceCtorEq, Nat.reduceBEq, Nat.reduceAdd, Nat.reduceMul, Nat.reduceSub, Nat.reduceLT, Nat.reduceLeDiff, Nat.reduceEqDiff]
    (refine hK _ _ ?_; (try clear hK); (try clear K))
    refine PW.go tab_ok [] fun K hK => ?_
    simp only [hall.1, hall.2, Bool.and_self, go_sem, ↓reduceIte, reduceCtorEq, Nat.reduceBEq, Nat.reduceAdd, Nat.reduceMul, Nat.reduceSub, Nat.reduceLT, Nat.reduceLeDiff, Nat.reduceEqDiff]
    (refine hK _ _ ?_; (try clear hK); (try clear K))
    refine PW.ret (OneM.fin (r' := (itemM r).2) (.inl rfl) rfl ?_ hwk (it_clean 0 0 _))
    rw [he]
  by_cases hk3 : k > 0
  · rw [if_pos hk3] at hz
    have hk3' : decide (k > 0) = true := by simpa using hk3
    refine PW.go tab_ok [] fun K hK => ?_
    simp only [hk3', go_sem, ↓reduceIte, reduceCtorEq, Nat.reduceBEq, Nat.reduceAdd, Nat.reduceMul, Nat.reduceSub, Nat.reduceLT, Nat.reduceLeDiff, Nat.reduceEqDiff]
    (refine hK _ _ ?_; (try clear hK); (try clear K))
    refine PW.cond_split (b := true) rfl ?_ ?_ <;> intro hb3
    · refine PW.goL tab_ok [] fun K hK => ?_
      simp only [hw, go_sem, ↓reduceIte, reduceCtorEq, Nat.reduceBEq, Nat.reduceAdd, Nat.reduceMul, Nat.reduceSub, Nat.reduceLT, Nat.reduceLeDiff, Nat.reduceEqDiff]
      refine (expr_pc (r := p) h2 hd2).use 0 rfl (Weaks.refl _) rfl ?_; refine PO.go tab_ok [] ?_
      simp only [go_sem, ↓reduceIte, reduceCtorEq, Nat.reduceBEq, Nat.reduceAdd, Nat.reduceMul, Nat.reduceSub, Nat.reduceLT, Nat.reduceLeDiff, Nat.reduceEqDiff]
      (refine hK _ _ ?_; (try clear hK); (try clear K))
      exact hlast (exprM p).2 0 _ (by simp [Sub, eget]) rfl (exprM_sh.ok _ h2) rfl rfl (by rw [hz]; rfl) (by rw [hz]; exact it_weak (4 + k) [(exprM p).1] .no)
    · cases hb3
  have hk3' : decide (k > 0) = false := by simpa using hk3
  rw [if_neg hk3] at hz
  refine PW.go tab_ok [] fun K hK => ?_
  simp only [hk3', go_sem, ↓reduceIte, reduceCtorEq, Nat.reduceBEq, Nat.reduceAdd, Nat.reduceMul, Nat.reduceSub, Nat.reduceLT, Nat.reduceLeDiff, Nat.reduceEqDiff]
  refine (has_pc (s := [42]) h2).use 0 rfl (Weaks.refl _) rfl ?_; refine PO.go tab_ok [] ?_
  simp only [go_sem, ↓reduceIte, reduceCtorEq, Nat.reduceBEq, Nat.reduceAdd, Nat.reduceMul, Nat.reduceSub, Nat.reduceLT, Nat.reduceLeDiff, Nat.reduceEqDiff]
  (refine hK _ _ ?_; (try clear hK); (try clear K))
  refine PW.cond_split (b := !(hasM [42] p).1) rfl ?_ ?_ <;> intro hb3
  · have hh : ¬ (hasM [42] p).1 = true := by simpa using hb3
    have h3 := hasM_ok (s := [42]) h2
    have hd3 : (hasM [42] p).2.d = 0 := by rw [hasM_d, hd2]
    rw [if_neg hh] at hz
    refine PW.goL tab_ok [] fun K hK => ?_
    simp only [hw, go_sem, ↓reduceIte, reduceCtorEq, Nat.reduceBEq, Nat.reduceAdd, Nat.reduceMul, Nat.reduceSub, Nat.reduceLT, Nat.reduceLeDiff, Nat.reduceEqDiff]
    refine (expr_pc (r := (hasM [42] p).2) h3 hd3).use 0 rfl (Weaks.refl _) rfl ?_; refine PO.go tab_ok [] ?_
    simp only [go_sem, ↓reduceIte, reduceCtorEq, Nat.reduceBEq, Nat.reduceAdd, Nat.reduceMul, Nat.reduceSub, Nat.reduceLT, Nat.reduceLeDiff, Nat.reduceEqDiff]
    (refine hK _ _ ?_; (try clear hK); (try clear K))
    exact hlast (exprM (hasM [42] p).2).2 0 _ (by simp [Sub, eget]) rfl (exprM_sh.ok _ h3) rfl rfl (by rw [hz]; rfl) (by rw [hz]; exact it_weak (4 + k) [(exprM (hasM [42] p).2).1] .no)
  · have hh : (hasM [42] p).1 = true := by simpa using hb3
    rw [if_pos hh] at hz
    exact PW.skip (hlast (hasM [42] p).2 0 _ (by simp [Sub, eget]) rfl (hasM_ok h2) rfl rfl (by rw [hz]) (by rw [hz]; exact it_weak0 3))

/-! ### A method that fills a statement -/
def TwoS (f : FuncId) (r : R) (k : Int) (S : Stm) (r' : R) : Prop := PC Try.prog f [.ref 0 0, .ref 1 0] ⟨[rPV r, stC0 k], []⟩ fun x st' => x = .tup [] ∧ st' = ⟨[rPV r', stC S], []⟩
theorem TwoS.fin {tt : TTab} {cs : List PV} {rest : List (List PV)} {len : List Nat} {env : Env} {e : Exit} {a b : List PV} {r' : R} {S : Stm} (he : e = .ret ∨ e = .normal) (hw : Weaks cs (stC S)) :
    Ends tt [] ⟨[a, b], []⟩ (fun x st' => x = .tup [] ∧ st' = ⟨[rPV r', stC S], []⟩) e env ⟨rPV r' :: cs :: rest, len⟩ := by
  refine ⟨he, [], .tup [], ⟨[rPV r', stC S], []⟩, rfl, .refl _, ⟨?_, by simp, ?_⟩, by simp, by simp, rfl, rfl, rfl⟩
  · simp only [List.length_cons, List.length_nil, List.take_succ_cons, List.take_zero, boxes_cons, boxes_nil, and_true]
    exact ⟨Weaks.refl _, fun c hc => List.all_eq_true.1 (r_all r') c hc, hw, fun c hc => List.all_eq_true.1 (st_all S) c hc⟩
  · intro c h
    simp only [List.mem_cons, List.not_mem_nil, or_false] at h
    rcases h with rfl | rfl
    · exact PVs.clean_data (r_clean r')
    · exact st_clean _ _ S
theorem TwoS.use {f : FuncId} {r r' : R} {k : Int} {S : Stm} (h : TwoS f r k S r') (i j : Nat) (hij : i ≠ j) {st : St} {K : PV → St → Prop} (hi : st.box[i]? = some (rPV r)) (hj : st.box[j]? = some (stC0 k))
    (hk : K (.tup []) { st with box := (st.box.set i (rPV r')).set j (stC S) }) : PC Try.prog f [.ref i 0, .ref j 0] st K := by
  refine PC.use h [i, j] [] (by simpa using hij) rfl ⟨by rw [PVs.ren_data (r_clean r)]; exact hi, by rw [PVs.ren_data (st0_clean 0 0 k)]; exact hj, trivial⟩ trivial ?_ ?_ ?_ ?_
  · exact .cons (by simp [PV.ren, out]) (.cons (by simp [PV.ren, out]) .nil)
  · rfl
  · intro cs' h'
    simp only [List.mem_cons, List.not_mem_nil, or_false] at h'
    rcases h' with rfl | rfl
    · exact PVs.clean_data (r_clean r)
    · exact st0_clean _ _ k
  · rintro r0 st1 ⟨rfl, rfl⟩ _ _
    simpa [merge, mergeL, setAll, PVs.ren_data (r_clean r'), PVs.ren_data (st_clean 0 0 S), PV.ren, PVs.ren] using hk
def dropM (r : R) : Stm × R := ({ stm0 2 with table := (nameM (mustM [[84, 65, 66, 76, 69]] r)).1 }, (nameM (mustM [[84, 65, 66, 76, 69]] r)).2)
theorem dropM_ok {r : R} (h : r.ok) : (dropM r).2.ok := nameM_ok (mustM_ok h)
theorem drop_pc {r : R} (h : r.ok) : TwoS 24 r 2 (dropM r).1 (dropM r).2 := by
  unfold TwoS
  refine PC.intro tab_ok Try.func24 rfl (by kernel_rfl) Try.ntmps24 (Nat.le_of_ble_eq_true rfl) (rs := _) (congrArg Array.toList Try.results24) ?_
  refine PW.go tab_ok [] fun K hK => ?_
  simp only [go_sem, ↓reduceIte, reduceCtorEq, Nat.reduceBEq, Nat.reduceAdd, Nat.reduceMul, Nat.reduceSub, Nat.reduceLT, Nat.reduceLeDiff, Nat.reduceEqDiff]
  refine (must_pc (ls := [[84, 65, 66, 76, 69]]) (by decide) h).use 0 rfl (Weaks.refl _) rfl ?_; refine PO.go tab_ok [] ?_
  simp only [go_sem, ↓reduceIte, reduceCtorEq, Nat.reduceBEq, Nat.reduceAdd, Nat.reduceMul, Nat.reduceSub, Nat.reduceLT, Nat.reduceLeDiff, Nat.reduceEqDiff]
  (refine hK _ _ ?_; (try clear hK); (try clear K))
  refine PW.goL tab_ok [] fun K hK => ?_
  simp only [go_sem, ↓reduceIte, reduceCtorEq, Nat.reduceBEq, Nat.reduceAdd, Nat.reduceMul, Nat.reduceSub, Nat.reduceLT, Nat.reduceLeDiff, Nat.reduceEqDiff]
  refine (name_pc (mustM_ok (ls := [[84, 65, 66, 76, 69]]) h)).use 0 rfl (Weaks.refl _) rfl ?_; refine PO.go tab_ok [] ?_
  simp only [stC0, go_sem, ↓reduceIte, reduceCtorEq, Nat.reduceBEq, Nat.reduceAdd, Nat.reduceMul, Nat.reduceSub, Nat.reduceLT, Nat.reduceLeDiff, Nat.reduceEqDiff]
  (refine hK _ _ ?_; (try clear hK); (try clear K))
  refine TwoS.fin (.inr rfl) ?_
  (repeat (first | exact .nil | refine .cons (by first | exact .refl _ | exact Weak.nil _ _ _ | exact Weak.no _ _ _ | exact opt_weak _) ?_))
def removeM (r : R) : Stm × R :=
  let q := nameM (mustM [[70, 82, 79, 77]] r)
  ({ stm0 5 with table := q.1, wh := (maybeM [87, 72, 69, 82, 69] q.2).1.toList }, (maybeM [87, 72, 69, 82, 69] q.2).2)
theorem removeM_ok {r : R} (h : r.ok) : (removeM r).2.ok := maybeM_ok (nameM_ok (mustM_ok h))
theorem remove_pc {r : R} (h : r.ok) (hd : r.d = 0) : TwoS 27 r 5 (removeM r).1 (removeM r).2 := by
  unfold TwoS
  refine PC.intro tab_ok Try.func27 rfl (by kernel_rfl) Try.ntmps27 (Nat.le_of_ble_eq_true rfl) (rs := _) (congrArg Array.toList Try.results27) ?_
  refine PW.go tab_ok [] fun K hK => ?_
  simp only [go_sem, ↓reduceIte, reduceCtorEq, Nat.reduceBEq, Nat.reduceAdd, Nat.reduceMul, Nat.reduceSub, Nat.reduceLT, Nat.reduceLeDiff, Nat.reduceEqDiff]
  refine (must_pc (ls := [[70, 82, 79, 77]]) (by decide) h).use 0 rfl (Weaks.refl _) rfl ?_; refine PO.go tab_ok [] ?_
  simp only [go_sem, ↓reduceIte, reduceCtorEq, Nat.reduceBEq, Nat.reduceAdd, Nat.reduceMul, Nat.reduceSub, Nat.reduceLT, Nat.reduceLeDiff, Nat.reduceEqDiff]
  (refine hK _ _ ?_; (try clear hK); (try clear K))
  refine PW.go tab_ok [] fun K hK => ?_
  simp only [go_sem, ↓reduceIte, reduceCtorEq, Nat.reduceBEq, Nat.reduceAdd, Nat.reduceMul, Nat.reduceSub, Nat.reduceLT, Nat.reduceLeDiff, Nat.reduceEqDiff]
  refine (name_pc (mustM_ok (ls := [[70, 82, 79, 77]]) h)).use 0 rfl (Weaks.refl _) rfl ?_; refine PO.go tab_ok [] ?_
  simp only [stC0, go_sem, ↓reduceIte, reduceCtorEq, Nat.reduceBEq, Nat.reduceAdd, Nat.reduceMul, Nat.reduceSub, Nat.reduceLT, Nat.reduceLeDiff, Nat.reduceEqDiff]
  (refine hK _ _ ?_; (try clear hK); (try clear K))
  refine PW.goL tab_ok [] fun K hK => ?_
  simp only [go_sem, ↓reduceIte, reduceCtorEq, Nat.reduceBEq, Nat.reduceAdd, Nat.reduceMul, Nat.reduceSub, Nat.reduceLT, Nat.reduceLeDiff, Nat.reduceEqDiff]
  refine (maybe_pc (w := [87, 72, 69, 82, 69]) (nameM_ok (mustM_ok (ls := [[70, 82, 79, 77]]) h)) (by rw [nameM_d, mustM_d, hd])).use 0 rfl (Weaks.refl _) rfl ?_; refine PO.go tab_ok [] ?_
  simp only [opt_isCell, go_sem, ↓reduceIte, reduceCtorEq, Nat.reduceBEq, Nat.reduceAdd, Nat.reduceMul, Nat.reduceSub, Nat.reduceLT, Nat.reduceLeDiff, Nat.reduceEqDiff]
  (refine hK _ _ ?_; (try clear hK); (try clear K))
  refine TwoS.fin (.inr rfl) ?_
  (repeat (first | exact .nil | refine .cons (by first | exact .refl _ | exact Weak.nil _ _ _ | exact Weak.no _ _ _ | exact opt_weak _) ?_))
end Go.Proofs.Ytolhbjfaahcekaa
end
section
/- The parser's statements: INSERT, UPDATE. -/
set_option linter.unusedVariables false
set_option linter.unusedSimpArgs false
namespace Go.Proofs.Ytolhbjfaahcekaa
open Go

/-! ### With a fault no expression is read -/
def Stk (m : R → Ex × R) : Prop := ∀ r : R, r.c ≠ 0 → (m r).2.c ≠ 0
theorem deepM_bad {r : R} (h : r.c ≠ 0) : (deepM r).c ≠ 0 := by
  have h1 : (r.deep 1).c ≠ 0 := h
  unfold deepM
  split
  · rw [failM_bad h1]; exact h1
  · exact h1
theorem withM_stk (one : R → Ex × R) : Stk (withM one) := fun r h => by
  have h1 := deepM_bad h
  unfold withM
  rw [if_neg h1]
  exact h1
theorem colM_stk : Stk colM := fun r h => by simp [colM, nameM_bad h, hasM_bad h, h]
theorem facM_stk (a b : R → Ex × R) : Stk (facM a b) := fun r h => by
  simp only [facM, litM_bad h, passM_bad h]
  exact colM_stk r h
theorem rowM_stk {m : R → Ex × R} (h : Stk m) (first : Int) (ops : List Str) : Stk (rowM m first ops) := fun r hc => by
  have h1 := h r hc
  unfold rowM
  cases (m r).2.ts.length with
  | zero => exact h1
  | succ n =>
    simp only [rowL, passM_bad h1]
    exact h1
theorem testM_stk {m : R → Ex × R} (h : Stk m) : Stk (testM m) := fun r hc => by
  have h1 := h r hc
  simp only [testM, passM_bad h1]
  exact h1
theorem notM_stk (nt : R → Ex × R) {m : R → Ex × R} (h : Stk m) : Stk (notM nt m) := fun r hc => by
  simp only [notM, hasM_bad hc]
  exact h r hc
theorem mkLv_stk (l : Lv) : Stk (mkLv l).ex := rowM_stk (rowM_stk (notM_stk _ (testM_stk (rowM_stk (rowM_stk (facM_stk _ _) _ _) _ _))) _ _) _ _
theorem exprM_bad {r : R} (h : r.c ≠ 0) : (exprM r).2.c ≠ 0 := mkLv_stk (lv 9) r h
/-- A statement of INSERT, UPDATE or SELECT whose rows, sets or items are still read; and where the reader and it are told of. -/
def midC (k : Int) (t : Str) (rows sets items : PV) : List PV := [.int .i64 k, .str t, nilPV, .str [], rows, sets, items, .str [], nilPV, nilPV, nilPV, nilPV, .bool false, .int .i64 (-1)]
def midB (k : Int) (t : Str) (rows sets items : PV) : List (List PV) := [midC k t rows sets items, [.ref 0 0], [.ref 1 0]]
theorem mid_good {k : Int} {t : Str} {rows sets items : PV} {n : Nat} (h : rows.isCell = true ∧ sets.isCell = true ∧ items.isCell = true) (hc : PV.clean 4 1 rows = true ∧ PV.clean 4 1 sets = true ∧ PV.clean 4 1 items = true) (q : R) : StOk ⟨rPV q :: midB k t rows sets items, [n]⟩ := by
  refine StOk.mk' fun cs hm => ?_
  simp only [midB, List.mem_cons, List.not_mem_nil, or_false] at hm
  rcases hm with rfl | rfl | rfl | rfl
  · exact ⟨r_all q, PVs.clean_data (r_clean q)⟩
  · refine ⟨?_, ?_⟩
    · simp only [midC, List.all_cons, List.all_nil, h.1, h.2.1, h.2.2]; rfl
    · have : ∀ (a b : Nat), a = 4 → b = 1 → PVs.clean a b (midC k t rows sets items) = true := by
        rintro _ _ rfl rfl
        simp only [midC, PVs.clean, hc.1, hc.2.1, hc.2.2]
        rfl
      exact this _ _ rfl rfl
  · exact ⟨rfl, rfl⟩
  · exact ⟨rfl, rfl⟩

theorem Ends.all {tt : TTab} {env : Env} {e : Exit} {st0 st st' : St} (he : e = .ret ∨ e = .normal) (hst : st = st') (hg : StOk st') (hb : st0.box.length ≤ st'.box.length) (hl : st0.len.length ≤ st'.len.length) :
    Ends tt [] st0 (fun x s => x = .tup [] ∧ s = st') e env st := by
  subst hst
  exact ⟨he, [], .tup [], _, rfl, .refl _, hg.left, hb, hl, rfl, rfl, rfl⟩
def insOne (z : R × List (List Vl)) : R × List (List Vl) := ((tupleM z.1).2, z.2 ++ [(tupleM z.1).1])
def insB (t : Str) (s : List (List Vl)) : List (List PV) := midB 3 t (.list 1 (s.map rowPV) (.own 0)) nilPV nilPV
theorem insertIn_pc {q : R} {t : Str} {s : List (List Vl)} (h : q.ok) (hs : s.length ≤ 1000) : PC Try.prog 45 [.ref 3 0, .ref 2 0] ⟨rPV q :: insB t s, [s.length]⟩ fun x st' => x = .tup [] ∧ st' = ⟨rPV (insOne (q, s)).1 :: insB t (insOne (q, s)).2, [(insOne (q, s)).2.length]⟩ := by
  have hfit : (s.length + 1) * 24 ≤ 140737488355328 := by omega
  have hmax : s.length + 1 ≤ maxLen := by unfold maxLen; omega
  unfold insB midB midC
  refine PC.intro tab_ok Try.func45 rfl (by kernel_rfl) Try.ntmps45 (Nat.le_of_ble_eq_true rfl) (rs := _) (congrArg Array.toList Try.results45) ?_
  refine PW.draw tab_ok mixed [] [(0, []), (1, []), (2, []), (3, []), (4, []), (5, []), (6, [0, 1, 4]), (7, []), (8, [0, 1, 5]), (9, []), (10, []), (11, [])] (by kernel_rfl) fun K hK => ?_
  simp only [go_sem, ↓reduceIte, reduceCtorEq, Nat.reduceBEq, Nat.reduceAdd, Nat.reduceMul, Nat.reduceSub, Nat.reduceLT, Nat.reduceLeDiff, Nat.reduceEqDiff]
  refine (tuple_pc h).use 0 rfl (Weaks.refl _) rfl ?_
  refine ⟨?_, ?_, ?_, GO.go tab_ok ?_⟩
  · simp only [go_sem, ↓reduceIte, reduceCtorEq, Nat.reduceBEq, Nat.reduceAdd, Nat.reduceMul, Nat.reduceSub, Nat.reduceLT, Nat.reduceLeDiff, Nat.reduceEqDiff]
  · simp only [go_sem, ↓reduceIte, reduceCtorEq, Nat.reduceBEq, Nat.reduceAdd, Nat.reduceMul, Nat.reduceSub, Nat.reduceLT, Nat.reduceLeDiff, Nat.reduceEqDiff]
  · simp only [go_sem, ↓reduceIte, reduceCtorEq, Nat.reduceBEq, Nat.reduceAdd, Nat.reduceMul, Nat.reduceSub, Nat.reduceLT, Nat.reduceLeDiff, Nat.reduceEqDiff]
  simp only [rowPV, hfit, hmax, go_sem, ↓reduceIte, reduceCtorEq, Nat.reduceBEq, Nat.reduceAdd, Nat.reduceMul, Nat.reduceSub, Nat.reduceLT, Nat.reduceLeDiff, Nat.reduceEqDiff]
  (refine hK _ _ ?_; (try clear hK); (try clear K))
  exact Ends.all (.inr rfl) (by simp [insOne, rowPV]) (mid_good ⟨rfl, rfl, rfl⟩ ⟨by simp [PV.clean, clean_map (row_clean 4 1)], rfl, rfl⟩ _) (by simp) (by simp)
theorem ins_reads (t : Str) : Reads (List (List Vl)) 45 [.ref 3 0, .ref 2 0] insOne (insB t) (fun s => [s.length]) (fun m q s => q.ok ∧ s.length + m ≤ 100) 3 1 where
  pc := fun m q s h => insertIn_pc h.1 (by omega)
  nb := fun _ => rfl
  nl := fun _ => rfl
  ok := fun m q s h => h.1
  aft := fun m q s h => tupleM_ok h.1
  good := fun s q => mid_good ⟨rfl, rfl, rfl⟩ ⟨by simp [PV.clean, clean_map (row_clean 4 1)], rfl, rfl⟩ q
  next := fun m q s h => ⟨hasM_ok (tupleM_ok h.1), by simp [insOne]; omega⟩
  fail := fun q s h => ⟨failM_ok h.1 2, h.2⟩
  bad := fun q s h hc => by simp [insOne, tupleM_bad hc, hc]
def insertM (r : R) : Stm × R :=
  let q := nameM (mustM [[73, 78, 84, 79]] r)
  let z := manyM insOne 16 (mustM [[86, 65, 76, 85, 69, 83]] q.2, [])
  ({ stm0 3 with table := q.1, rows := z.2 }, z.1)
theorem insertM_ok {r : R} (h : r.ok) : (insertM r).2.ok := many_ok (fun q s h => tupleM_ok h) 16 _ _ (mustM_ok (nameM_ok (mustM_ok h)))
theorem insertM_d (r : R) : (insertM r).2.d = r.d := by
  simp only [insertM]
  rw [many_d (fun q s => tupleM_d q), mustM_d, nameM_d, mustM_d]
theorem insert_pc {r : R} (h : r.ok) : TwoS 25 r 3 (insertM r).1 (insertM r).2 := by
  unfold TwoS
  refine PC.intro tab_ok Try.func25 rfl (by kernel_rfl) Try.ntmps25 (Nat.le_of_ble_eq_true rfl) (rs := _) (congrArg Array.toList Try.results25) ?_
  (repeat (refine PW.go tab_ok [] fun K hK => ?_; simp only [go_sem, ↓reduceIte, reduceCtorEq, Nat.reduceBEq, Nat.reduceAdd, Nat.reduceMul, Nat.reduceSub, Nat.reduceLT, Nat.reduceLeDiff, Nat.reduceEqDiff]; (refine hK _ _ ?_; clear hK K)))
  refine PW.go tab_ok [] fun K hK => ?_
  simp only [go_sem, ↓reduceIte, reduceCtorEq, Nat.reduceBEq, Nat.reduceAdd, Nat.reduceMul, Nat.reduceSub, Nat.reduceLT, Nat.reduceLeDiff, Nat.reduceEqDiff]
  refine (must_pc (ls := [[73, 78, 84, 79]]) (by decide) h).use 0 rfl (Weaks.refl _) rfl ?_; refine PO.go tab_ok [] ?_
  simp only [go_sem, ↓reduceIte, reduceCtorEq, Nat.reduceBEq, Nat.reduceAdd, Nat.reduceMul, Nat.reduceSub, Nat.reduceLT, Nat.reduceLeDiff, Nat.reduceEqDiff]
  (refine hK _ _ ?_; (try clear hK); (try clear K))
  have h1 := mustM_ok (ls := [[73, 78, 84, 79]]) h
  have hz : insertM r = insertM r := rfl
  conv at hz => rhs; unfold insertM
  simp only at hz
  generalize mustM [[73, 78, 84, 79]] r = q1 at h1 hz ⊢
  refine PW.draws tab_ok mixed [] [(0, []), (1, []), (2, [0]), (3, []), (4, []), (5, [])] (by kernel_rfl) fun K hK => ?_
  simp only [go_sem, ↓reduceIte, reduceCtorEq, Nat.reduceBEq, Nat.reduceAdd, Nat.reduceMul, Nat.reduceSub, Nat.reduceLT, Nat.reduceLeDiff, Nat.reduceEqDiff]
  refine (name_pc h1).use 0 rfl (Weaks.refl _) rfl ?_
  refine ⟨?_, GO.go tab_ok ?_⟩
  · simp only [go_sem, ↓reduceIte, reduceCtorEq, Nat.reduceBEq, Nat.reduceAdd, Nat.reduceMul, Nat.reduceSub, Nat.reduceLT, Nat.reduceLeDiff, Nat.reduceEqDiff]
  simp only [stC0, go_sem, ↓reduceIte, reduceCtorEq, Nat.reduceBEq, Nat.reduceAdd, Nat.reduceMul, Nat.reduceSub, Nat.reduceLT, Nat.reduceLeDiff, Nat.reduceEqDiff]
  (refine hK _ _ ?_; (try clear hK); (try clear K))
  have h2 := nameM_ok h1
  generalize nameM q1 = q2 at h2 hz ⊢
  obtain ⟨t, q2⟩ := q2
  simp only at h2 hz ⊢
  refine PW.go tab_ok [] fun K hK => ?_
  simp only [go_sem, ↓reduceIte, reduceCtorEq, Nat.reduceBEq, Nat.reduceAdd, Nat.reduceMul, Nat.reduceSub, Nat.reduceLT, Nat.reduceLeDiff, Nat.reduceEqDiff]
  refine (must_pc (ls := [[86, 65, 76, 85, 69, 83]]) (by decide) h2).use 0 rfl (Weaks.refl _) rfl ?_; refine PO.go tab_ok [] ?_
  simp only [go_sem, ↓reduceIte, reduceCtorEq, Nat.reduceBEq, Nat.reduceAdd, Nat.reduceMul, Nat.reduceSub, Nat.reduceLT, Nat.reduceLeDiff, Nat.reduceEqDiff]
  (refine hK _ _ ?_; (try clear hK); (try clear K))
  have h3 := mustM_ok (ls := [[86, 65, 76, 85, 69, 83]]) h2
  generalize mustM [[86, 65, 76, 85, 69, 83]] q2 = q3 at h3 hz ⊢
  refine PW.adopt ?_
  refine PW.forget [(3, .ref 3 0), (2, .ref 2 0), (1, .ref 1 0), (0, .ref 0 0)] ⟨rPV q3 :: insB t [], [0]⟩ (by simp [Sub, eget]) ⟨?_, rfl, ((ins_reads t).good [] q3).clean⟩ rfl (Nat.le_refl _) (Nat.le_refl _) ?_
  · simp [insB, midB, midC, nilPV, Weaks.refl, Weak.nil, PV.isCell, r_all, rPV, rdPV]
  refine PW.goL tab_ok [] fun K hK => ?_
  simp only [insB, midB, go_sem, ↓reduceIte, reduceCtorEq, Nat.reduceBEq, Nat.reduceAdd, Nat.reduceMul, Nat.reduceSub, Nat.reduceLT, Nat.reduceLeDiff, Nat.reduceEqDiff]
  refine (many_pc (ins_reads t) 16 (by omega) (q0 := q3) (s0 := []) ⟨h3, by simp⟩ rfl).mono ?_
  rintro x st' ⟨rfl, rfl⟩
  generalize manyM insOne 16 (q3, []) = z at hz ⊢
  refine PO.go tab_ok [] ?_
  simp only [insB, midB, midC, go_sem, ↓reduceIte, reduceCtorEq, Nat.reduceBEq, Nat.reduceAdd, Nat.reduceMul, Nat.reduceSub, Nat.reduceLT, Nat.reduceLeDiff, Nat.reduceEqDiff]
  (refine hK _ _ ?_; (try clear hK); (try clear K))
  rw [hz]
  refine TwoS.fin (.inr rfl) ?_
  (repeat (first | exact .nil | refine .cons (by first | exact .refl _ | exact Weak.nil _ _ _ | exact Weak.no _ _ _ | exact opt_weak _) ?_))

/-! ### UPDATE -/
def updOne (z : R × List SetX) : R × List SetX :=
  let n := nameM z.1
  let e := exprM (mustM [[61]] n.2)
  (e.2, z.2 ++ [⟨n.1, e.1⟩])
def updB (t : Str) (s : List SetX) : List (List PV) := midB 4 t nilPV (.list 9 (s.map sePV) (.own 0)) nilPV
theorem updOne_ok {q : R} (h : q.ok) (s : List SetX) : (updOne (q, s)).1.ok := exprM_sh.ok _ (mustM_ok (nameM_ok h))
theorem updOne_d (q : R) (s : List SetX) : (updOne (q, s)).1.d = q.d := by
  simp only [updOne, exprM_sh.dd, mustM_d, nameM_d]
theorem updateIn_pc {q : R} {t : Str} {s : List SetX} (h : q.ok) (hd : q.d = 0) (hs : s.length ≤ 1000) : PC Try.prog 47 [.ref 2 0, .ref 3 0] ⟨rPV q :: updB t s, [s.length]⟩ fun x st' => x = .tup [] ∧ st' = ⟨rPV (updOne (q, s)).1 :: updB t (updOne (q, s)).2, [(updOne (q, s)).2.length]⟩ := by
  have hfit : (s.length + 1) * 120 ≤ 140737488355328 := by omega
  have hmax : s.length + 1 ≤ maxLen := by unfold maxLen; omega
  unfold updB midB midC
  refine PC.intro tab_ok Try.func47 rfl (by kernel_rfl) Try.ntmps47 (Nat.le_of_ble_eq_true rfl) (rs := _) (congrArg Array.toList Try.results47) ?_
  refine PW.go tab_ok [] fun K hK => ?_
  simp only [go_sem, ↓reduceIte, reduceCtorEq, Nat.reduceBEq, Nat.reduceAdd, Nat.reduceMul, Nat.reduceSub, Nat.reduceLT, Nat.reduceLeDiff, Nat.reduceEqDiff]
  refine (name_pc h).use 0 rfl (Weaks.refl _) rfl ?_; refine PO.go tab_ok [] ?_
  simp only [go_sem, ↓reduceIte, reduceCtorEq, Nat.reduceBEq, Nat.reduceAdd, Nat.reduceMul, Nat.reduceSub, Nat.reduceLT, Nat.reduceLeDiff, Nat.reduceEqDiff]
  (refine hK _ _ ?_; (try clear hK); (try clear K))
  have h1 := nameM_ok h
  have hd1 : (nameM q).2.d = 0 := by rw [nameM_d, hd]
  refine PW.go tab_ok [] fun K hK => ?_
  simp only [go_sem, ↓reduceIte, reduceCtorEq, Nat.reduceBEq, Nat.reduceAdd, Nat.reduceMul, Nat.reduceSub, Nat.reduceLT, Nat.reduceLeDiff, Nat.reduceEqDiff]
  refine (must_pc (ls := [[61]]) (by decide) h1).use 0 rfl (Weaks.refl _) rfl ?_; refine PO.go tab_ok [] ?_
  simp only [go_sem, ↓reduceIte, reduceCtorEq, Nat.reduceBEq, Nat.reduceAdd, Nat.reduceMul, Nat.reduceSub, Nat.reduceLT, Nat.reduceLeDiff, Nat.reduceEqDiff]
  (refine hK _ _ ?_; (try clear hK); (try clear K))
  refine PW.draw tab_ok mixed [] [(0, []), (1, []), (2, []), (3, []), (4, []), (5, []), (6, []), (7, [0, 1, 4]), (8, []), (9, []), (10, [0, 1, 6]), (11, []), (12, []), (13, [])] (by kernel_rfl) fun K hK => ?_
  simp only [go_sem, ↓reduceIte, reduceCtorEq, Nat.reduceBEq, Nat.reduceAdd, Nat.reduceMul, Nat.reduceSub, Nat.reduceLT, Nat.reduceLeDiff, Nat.reduceEqDiff]
  refine (expr_pc (mustM_ok h1) (by rw [mustM_d, hd1])).use 0 rfl (Weaks.refl _) rfl ?_
  refine ⟨?_, ?_, ?_, GO.go tab_ok ?_⟩
  · simp only [go_sem, ↓reduceIte, reduceCtorEq, Nat.reduceBEq, Nat.reduceAdd, Nat.reduceMul, Nat.reduceSub, Nat.reduceLT, Nat.reduceLeDiff, Nat.reduceEqDiff]
  · simp only [go_sem, ↓reduceIte, reduceCtorEq, Nat.reduceBEq, Nat.reduceAdd, Nat.reduceMul, Nat.reduceSub, Nat.reduceLT, Nat.reduceLeDiff, Nat.reduceEqDiff]
  · simp only [go_sem, ↓reduceIte, reduceCtorEq, Nat.reduceBEq, Nat.reduceAdd, Nat.reduceMul, Nat.reduceSub, Nat.reduceLT, Nat.reduceLeDiff, Nat.reduceEqDiff]
  simp only [hfit, hmax, go_sem, ↓reduceIte, reduceCtorEq, Nat.reduceBEq, Nat.reduceAdd, Nat.reduceMul, Nat.reduceSub, Nat.reduceLT, Nat.reduceLeDiff, Nat.reduceEqDiff]
  (refine hK _ _ ?_; (try clear hK); (try clear K))
  exact Ends.all (.inr rfl) (by simp [updOne, sePV]) (mid_good ⟨rfl, rfl, rfl⟩ ⟨rfl, by simp [PV.clean, clean_map (se_clean 4 1)], rfl⟩ _) (by simp) (by simp)
theorem upd_reads (t : Str) : Reads (List SetX) 47 [.ref 2 0, .ref 3 0] updOne (updB t) (fun s => [s.length]) (fun m q s => q.ok ∧ q.d = 0 ∧ s.length + m ≤ 100) 3 1 where
  pc := fun m q s h => updateIn_pc h.1 h.2.1 (by omega)
  nb := fun _ => rfl
  nl := fun _ => rfl
  ok := fun m q s h => h.1
  aft := fun m q s h => updOne_ok h.1 s
  good := fun s q => mid_good ⟨rfl, rfl, rfl⟩ ⟨rfl, by simp [PV.clean, clean_map (se_clean 4 1)], rfl⟩ q
  next := fun m q s h => ⟨hasM_ok (updOne_ok h.1 s), by rw [hasM_d, updOne_d, h.2.1], by simp [updOne]; omega⟩
  fail := fun q s h => ⟨failM_ok h.1 2, by rw [failM_d, h.2.1], h.2.2⟩
  bad := fun q s h hc => by
    have := exprM_bad hc
    simp [updOne, nameM_bad hc, mustM_bad hc, this, hc]
def updateM (r : R) : Stm × R :=
  let q := nameM r
  let z := manyM updOne 8 (mustM [[83, 69, 84]] q.2, [])
  let w := maybeM [87, 72, 69, 82, 69] z.1
  ({ stm0 4 with table := q.1, sets := z.2, wh := w.1.toList }, w.2)
theorem updateM_ok {r : R} (h : r.ok) : (updateM r).2.ok := maybeM_ok (many_ok (fun q s h => updOne_ok h s) 8 _ _ (mustM_ok (nameM_ok h)))
theorem updateM_d (r : R) : (updateM r).2.d = r.d := by
  simp only [updateM]
  rw [maybeM_d, many_d updOne_d, mustM_d, nameM_d]
theorem update_pc {r : R} (h : r.ok) (hd : r.d = 0) : TwoS 26 r 4 (updateM r).1 (updateM r).2 := by
  unfold TwoS
  refine PC.intro tab_ok Try.func26 rfl (by kernel_rfl) Try.ntmps26 (Nat.le_of_ble_eq_true rfl) (rs := _) (congrArg Array.toList Try.results26) ?_
  (repeat (refine PW.go tab_ok [] fun K hK => ?_; simp only [go_sem, ↓reduceIte, reduceCtorEq, Nat.reduceBEq, Nat.reduceAdd, Nat.reduceMul, Nat.reduceSub, Nat.reduceLT, Nat.reduceLeDiff, Nat.reduceEqDiff]; (refine hK _ _ ?_; clear hK K)))
  have h1 := nameM_ok h
  have hd1 : (nameM r).2.d = 0 := by rw [nameM_d, hd]
  have hz : updateM r = updateM r := rfl
  conv at hz => rhs; unfold updateM
  simp only at hz
  refine PW.draws tab_ok mixed [] [(0, []), (1, []), (2, [0]), (3, []), (4, []), (5, [])] (by kernel_rfl) fun K hK => ?_
  simp only [go_sem, ↓reduceIte, reduceCtorEq, Nat.reduceBEq, Nat.reduceAdd, Nat.reduceMul, Nat.reduceSub, Nat.reduceLT, Nat.reduceLeDiff, Nat.reduceEqDiff]
  refine (name_pc h).use 0 rfl (Weaks.refl _) rfl ?_
  refine ⟨?_, GO.go tab_ok ?_⟩
  · simp only [go_sem, ↓reduceIte, reduceCtorEq, Nat.reduceBEq, Nat.reduceAdd, Nat.reduceMul, Nat.reduceSub, Nat.reduceLT, Nat.reduceLeDiff, Nat.reduceEqDiff]
  simp only [stC0, go_sem, ↓reduceIte, reduceCtorEq, Nat.reduceBEq, Nat.reduceAdd, Nat.reduceMul, Nat.reduceSub, Nat.reduceLT, Nat.reduceLeDiff, Nat.reduceEqDiff]
  (refine hK _ _ ?_; (try clear hK); (try clear K))
  generalize nameM r = q2 at h1 hd1 hz ⊢
  obtain ⟨t, q2⟩ := q2
  simp only at h1 hd1 hz ⊢
  refine PW.go tab_ok [] fun K hK => ?_
  simp only [go_sem, ↓reduceIte, reduceCtorEq, Nat.reduceBEq, Nat.reduceAdd, Nat.reduceMul, Nat.reduceSub, Nat.reduceLT, Nat.reduceLeDiff, Nat.reduceEqDiff]
  refine (must_pc (ls := [[83, 69, 84]]) (by decide) h1).use 0 rfl (Weaks.refl _) rfl ?_; refine PO.go tab_ok [] ?_
  simp only [go_sem, ↓reduceIte, reduceCtorEq, Nat.reduceBEq, Nat.reduceAdd, Nat.reduceMul, Nat.reduceSub, Nat.reduceLT, Nat.reduceLeDiff, Nat.reduceEqDiff]
  (refine hK _ _ ?_; (try clear hK); (try clear K))
  have h3 := mustM_ok (ls := [[83, 69, 84]]) h1
  have hd3 : (mustM [[83, 69, 84]] q2).d = 0 := by rw [mustM_d, hd1]
  generalize mustM [[83, 69, 84]] q2 = q3 at h3 hd3 hz ⊢
  refine PW.adopt ?_
  refine PW.forget [(3, .ref 3 0), (2, .ref 2 0), (1, .ref 1 0), (0, .ref 0 0)] ⟨rPV q3 :: updB t [], [0]⟩ (by simp [Sub, eget]) ⟨?_, rfl, ((upd_reads t).good [] q3).clean⟩ rfl (Nat.le_refl _) (Nat.le_refl _) ?_
  · simp [updB, midB, midC, nilPV, Weaks.refl, Weak.nil, PV.isCell, r_all, rPV, rdPV]
  refine PW.go tab_ok [] fun K hK => ?_
  simp only [updB, midB, go_sem, ↓reduceIte, reduceCtorEq, Nat.reduceBEq, Nat.reduceAdd, Nat.reduceMul, Nat.reduceSub, Nat.reduceLT, Nat.reduceLeDiff, Nat.reduceEqDiff]
  refine (many_pc (upd_reads t) 8 (by omega) (q0 := q3) (s0 := []) ⟨h3, hd3, by simp⟩ rfl).mono ?_
  rintro x st' ⟨rfl, rfl⟩
  have h4 := many_ok (fun q s h => updOne_ok h s) 8 q3 [] h3
  have hd4 : (manyM updOne 8 (q3, [])).1.d = 0 := by rw [many_d updOne_d, hd3]
  generalize manyM updOne 8 (q3, []) = z at h4 hd4 hz ⊢
  refine PO.go tab_ok [] ?_
  simp only [updB, midB, midC, go_sem, ↓reduceIte, reduceCtorEq, Nat.reduceBEq, Nat.reduceAdd, Nat.reduceMul, Nat.reduceSub, Nat.reduceLT, Nat.reduceLeDiff, Nat.reduceEqDiff]
  (refine hK _ _ ?_; (try clear hK); (try clear K))
  refine PW.draw tab_ok mixed [] [(0, []), (1, []), (2, [0]), (3, []), (4, []), (5, [])] (by kernel_rfl) fun K hK => ?_
  simp only [go_sem, ↓reduceIte, reduceCtorEq, Nat.reduceBEq, Nat.reduceAdd, Nat.reduceMul, Nat.reduceSub, Nat.reduceLT, Nat.reduceLeDiff, Nat.reduceEqDiff]
  refine (maybe_pc (w := [87, 72, 69, 82, 69]) h4 hd4).use 0 rfl (Weaks.refl _) rfl ?_
  refine ⟨?_, GO.go tab_ok ?_⟩
  · simp only [go_sem, ↓reduceIte, reduceCtorEq, Nat.reduceBEq, Nat.reduceAdd, Nat.reduceMul, Nat.reduceSub, Nat.reduceLT, Nat.reduceLeDiff, Nat.reduceEqDiff]
  simp only [go_sem, ↓reduceIte, reduceCtorEq, Nat.reduceBEq, Nat.reduceAdd, Nat.reduceMul, Nat.reduceSub, Nat.reduceLT, Nat.reduceLeDiff, Nat.reduceEqDiff]
  (refine hK _ _ ?_; (try clear hK); (try clear K))
  rw [hz]
  refine TwoS.fin (.inr rfl) ?_
  (repeat (first | exact .nil | refine .cons (by first | exact .refl _ | exact Weak.nil _ _ _ | exact Weak.no _ _ _ | exact opt_weak _) ?_))
end Go.Proofs.Ytolhbjfaahcekaa
end
section
/- The parser's statements: CREATE. -/
set_option linter.unusedVariables false
set_option linter.unusedSimpArgs false
namespace Go.Proofs.Ytolhbjfaahcekaa
open Go

def sPRIM : Str := [80, 82, 73, 77, 65, 82, 89]
def creL : Nat → List Col → R → List Col × R
  | 0, cs, r => (cs, r)
  | n + 1, cs, r =>
    if r.c ≠ 0 then (cs, r)
    else if cs ≠ [] ∧ (hasM sPRIM r).1 = true then (cs, (hasM sPRIM r).2)
    else creL n (cs ++ [(coM (if cs.length = 8 then failM 2 r else r)).1]) (mustM [[44]] (coM (if cs.length = 8 then failM 2 r else r)).2)
theorem creL_ok : ∀ (n : Nat) (cs : List Col) (r : R), r.ok → (creL n cs r).2.ok
  | 0, cs, r, h => h
  | n + 1, cs, r, h => by
    unfold creL
    split
    · exact h
    · split
      · exact hasM_ok h
      · refine creL_ok n _ _ (mustM_ok (coM_ok ?_))
        split
        · exact failM_ok h 2
        · exact h
theorem creL_d : ∀ (n : Nat) (cs : List Col) (r : R), (creL n cs r).2.d = r.d
  | 0, cs, r => rfl
  | n + 1, cs, r => by
    unfold creL
    split
    · rfl
    · split
      · exact hasM_d _ _
      · rw [creL_d n, mustM_d, coM_d]
        split
        · exact failM_d _ _
        · rfl
def createM (r : R) : Stm × R :=
  let q := nameM (mustM [[84, 65, 66, 76, 69]] r)
  let z := creL 10 [] (mustM [[40]] q.2)
  let p := nameM (mustM [[75, 69, 89], [40]] z.2)
  ({ stm0 1 with table := q.1, cols := z.1, prim := p.1 }, mustM [[41], [41]] p.2)
theorem createM_ok {r : R} (h : r.ok) : (createM r).2.ok := mustM_ok (nameM_ok (mustM_ok (creL_ok 10 _ _ (mustM_ok (nameM_ok (mustM_ok h))))))
theorem createM_d (r : R) : (createM r).2.d = r.d := by
  simp only [createM]
  rw [mustM_d, nameM_d, mustM_d, creL_d, mustM_d, nameM_d, mustM_d]
def creC (t : Str) (cs : List Col) : List PV := [.int .i64 1, .str t, .list 4 (cs.map coPV) (.own 0), .str [], nilPV, nilPV, nilPV, .str [], nilPV, nilPV, nilPV, nilPV, .bool false, .int .i64 (-1)]
theorem cre_good (t : Str) (cs : List Col) (q : R) (n : Nat) : StOk ⟨[rPV q, creC t cs], [n]⟩ := by
  refine StOk.mk' fun c hc => ?_
  simp only [List.mem_cons, List.not_mem_nil, or_false] at hc
  rcases hc with rfl | rfl
  · exact ⟨r_all q, PVs.clean_data (r_clean q)⟩
  · refine ⟨rfl, ?_⟩
    simp [creC, PVs.clean, PV.clean, clean_map (co_clean 2 1)]
    rfl
theorem co_cells (c : Col) : (coPV c).cells = [.str c.name, .int .i64 c.kind, .bool c.nn, .bool c.un] := rfl
set_option maxHeartbeats 1000000 in
theorem create_pc {r : R} (h : r.ok) : TwoS 23 r 1 (createM r).1 (createM r).2 := by
  have hz : createM r = createM r := rfl
  conv at hz => rhs; unfold createM
  simp only at hz
  unfold TwoS
  refine PC.intro tab_ok Try.func23 rfl (by kernel_rfl) Try.ntmps23 (Nat.le_of_ble_eq_true rfl) (rs := _) (congrArg Array.toList Try.results23) ?_
  refine PW.go tab_ok [] fun K hK => ?_
  simp only [go_sem, ↓reduceIte, reduceCtorEq, Nat.reduceBEq, Nat.reduceAdd, Nat.reduceMul, Nat.reduceSub, Nat.reduceLT, Nat.reduceLeDiff, Nat.reduceEqDiff]
  refine (must_pc (ls := [[84, 65, 66, 76, 69]]) (by decide) h).use 0 rfl (Weaks.refl _) rfl ?_; refine PO.go tab_ok [] ?_
  simp only [go_sem, ↓reduceIte, reduceCtorEq, Nat.reduceBEq, Nat.reduceAdd, Nat.reduceMul, Nat.reduceSub, Nat.reduceLT, Nat.reduceLeDiff, Nat.reduceEqDiff]
  (refine hK _ _ ?_; (try clear hK); (try clear K))
  have h1 := mustM_ok (ls := [[84, 65, 66, 76, 69]]) h
  generalize mustM [[84, 65, 66, 76, 69]] r = q1 at h1 hz ⊢
  refine PW.go tab_ok [] fun K hK => ?_
  simp only [go_sem, ↓reduceIte, reduceCtorEq, Nat.reduceBEq, Nat.reduceAdd, Nat.reduceMul, Nat.reduceSub, Nat.reduceLT, Nat.reduceLeDiff, Nat.reduceEqDiff]
  refine (name_pc h1).use 0 rfl (Weaks.refl _) rfl ?_; refine PO.go tab_ok [] ?_
  simp only [stC0, go_sem, ↓reduceIte, reduceCtorEq, Nat.reduceBEq, Nat.reduceAdd, Nat.reduceMul, Nat.reduceSub, Nat.reduceLT, Nat.reduceLeDiff, Nat.reduceEqDiff]
  (refine hK _ _ ?_; (try clear hK); (try clear K))
  have h2 := nameM_ok h1
  generalize nameM q1 = q2 at h2 hz ⊢
  obtain ⟨t, q2⟩ := q2
  simp only at h2 hz ⊢
  refine PW.go tab_ok [] fun K hK => ?_
  simp only [go_sem, ↓reduceIte, reduceCtorEq, Nat.reduceBEq, Nat.reduceAdd, Nat.reduceMul, Nat.reduceSub, Nat.reduceLT, Nat.reduceLeDiff, Nat.reduceEqDiff]
  refine (must_pc (ls := [[40]]) (by decide) h2).use 0 rfl (Weaks.refl _) rfl ?_; refine PO.go tab_ok [] ?_
  simp only [go_sem, ↓reduceIte, reduceCtorEq, Nat.reduceBEq, Nat.reduceAdd, Nat.reduceMul, Nat.reduceSub, Nat.reduceLT, Nat.reduceLeDiff, Nat.reduceEqDiff]
  (refine hK _ _ ?_; (try clear hK); (try clear K))
  have h3 := mustM_ok (ls := [[40]]) h2
  generalize mustM [[40]] q2 = q3 at h3 hz ⊢
  refine PW.adopt ?_
  refine PW.forget [(1, .ref 1 0), (0, .ref 0 0)] ⟨[rPV q3, creC t []], [0]⟩ (by simp [Sub, eget]) ⟨?_, rfl, (cre_good t [] q3 0).clean⟩ rfl (Nat.le_refl _) (Nat.le_refl _) ?_
  · simp [creC, nilPV, Weaks.refl, Weak.nil, PV.isCell, r_all, rPV, rdPV]
  refine PW.seq_k fun K0 hK0 => ?_
  have hrest : ∀ {env : Env} {st : St} (z : List Col × R), Sub env [(1, .ref 1 0), (0, .ref 0 0)] → st = ⟨[rPV z.2, creC t z.1], [z.1.length]⟩ → z.2.ok → creL 10 [] q3 = z → K0 env st := by
    rintro env st z hsub rfl hzo hze
    refine hK0 _ _ (PW.less _ hsub ?_)
    clear hK0 K0
    rw [hze] at hz
    refine PW.go tab_ok [] fun K hK => ?_
    simp only [go_sem, ↓reduceIte, reduceCtorEq, Nat.reduceBEq, Nat.reduceAdd, Nat.reduceMul, Nat.reduceSub, Nat.reduceLT, Nat.reduceLeDiff, Nat.reduceEqDiff]
    refine (must_pc (ls := [[75, 69, 89], [40]]) (by decide) hzo).use 0 rfl (Weaks.refl _) rfl ?_; refine PO.go tab_ok [] ?_
    simp only [go_sem, ↓reduceIte, reduceCtorEq, Nat.reduceBEq, Nat.reduceAdd, Nat.reduceMul, Nat.reduceSub, Nat.reduceLT, Nat.reduceLeDiff, Nat.reduceEqDiff]
    (refine hK _ _ ?_; (try clear hK); (try clear K))
    have h4 := mustM_ok (ls := [[75, 69, 89], [40]]) hzo
    generalize mustM [[75, 69, 89], [40]] z.2 = q4 at h4 hz ⊢
    refine PW.go tab_ok [] fun K hK => ?_
    simp only [go_sem, ↓reduceIte, reduceCtorEq, Nat.reduceBEq, Nat.reduceAdd, Nat.reduceMul, Nat.reduceSub, Nat.reduceLT, Nat.reduceLeDiff, Nat.reduceEqDiff]
    refine (name_pc h4).use 0 rfl (Weaks.refl _) rfl ?_; refine PO.go tab_ok [] ?_
    simp only [creC, go_sem, ↓reduceIte, reduceCtorEq, Nat.reduceBEq, Nat.reduceAdd, Nat.reduceMul, Nat.reduceSub, Nat.reduceLT, Nat.reduceLeDiff, Nat.reduceEqDiff]
    (refine hK _ _ ?_; (try clear hK); (try clear K))
    have h5 := nameM_ok h4
    generalize nameM q4 = q5 at h5 hz ⊢
    refine PW.goL tab_ok [] fun K hK => ?_
    simp only [go_sem, ↓reduceIte, reduceCtorEq, Nat.reduceBEq, Nat.reduceAdd, Nat.reduceMul, Nat.reduceSub, Nat.reduceLT, Nat.reduceLeDiff, Nat.reduceEqDiff]
    refine (must_pc (ls := [[41], [41]]) (by decide) h5).use 0 rfl (Weaks.refl _) rfl ?_; refine PO.go tab_ok [] ?_
    simp only [go_sem, ↓reduceIte, reduceCtorEq, Nat.reduceBEq, Nat.reduceAdd, Nat.reduceMul, Nat.reduceSub, Nat.reduceLT, Nat.reduceLeDiff, Nat.reduceEqDiff]
    (refine hK _ _ ?_; (try clear hK); (try clear K))
    rw [hz]
    refine TwoS.fin (.inr rfl) ?_
    (repeat (first | exact .nil | refine .cons (by first | exact .refl _ | exact Weak.nil _ _ _ | exact Weak.no _ _ _ | exact opt_weak _) ?_))
  refine PW.block (PW.loop (α := Nat × List Col × R) (fun _ => [(1, .ref 1 0), (0, .ref 0 0)]) (fun a => ⟨[rPV a.2.2, creC t a.2.1], [a.2.1.length]⟩)
    (fun a => a.1 + a.2.1.length = 10 ∧ (a.2.1.length ≤ 8 ∨ a.2.2.c ≠ 0 ∧ a.2.1.length ≤ 9) ∧ a.2.2.ok ∧ creL a.1 a.2.1 a.2.2 = creL 10 [] q3) (fun a => a.1) (10, [], q3) ⟨rfl, .inl (by simp), h3, rfl⟩ ?_ rfl (fun _ _ => ⟨rfl, rfl⟩) ?_)
  · simp [Sub, eget]
  rintro ⟨n, cs, q⟩ ⟨hn, hlen, hok, he⟩
  simp only at hn hlen hok he
  obtain ⟨m, rfl⟩ : ∃ m, n = m + 1 := ⟨n - 1, by omega⟩
  unfold creL at he
  refine PW.seq_k fun K1 hK1 => ?_
  refine PW.go tab_ok [] fun K hK => ?_
  simp only [go_sem, ↓reduceIte, reduceCtorEq, Nat.reduceBEq, Nat.reduceAdd, Nat.reduceMul, Nat.reduceSub, Nat.reduceLT, Nat.reduceLeDiff, Nat.reduceEqDiff]
  refine (fine_pc q.ts q.d q.c q.a).use 0 rfl .nil rfl (rd_clean _ _ _ _) ?_
  rintro _ _ ⟨rfl, rfl⟩ _ _
  refine PO.go tab_ok [] ?_
  by_cases hc : q.c = 0
  · have hc1 : (q.c == 0) = true := by simp [hc]
    rw [if_neg (by simp [hc])] at he
    have hlen8 : cs.length ≤ 8 := by rcases hlen with h | h; exact h; exact absurd hc h.1
    have hround : ∀ {env : Env} {st : St}, Sub env [(1, .ref 1 0), (0, .ref 0 0)] → st = ⟨[rPV q, creC t cs], [cs.length]⟩ → creL m (cs ++ [(coM (if cs.length = 8 then failM 2 q else q)).1]) (mustM [[44]] (coM (if cs.length = 8 then failM 2 q else q)).2) = creL 10 [] q3 → K1 env st := by
      rintro env st hsub rfl he
      refine hK1 _ _ (PW.less _ hsub ?_)
      clear hK1
      refine PW.block ?_
      refine PW.seq_k fun K0 hK0 => ?_
      refine PW.go tab_ok [] fun K hK => ?_
      simp only [creC, go_sem, ↓reduceIte, reduceCtorEq, Nat.reduceBEq, Nat.reduceAdd, Nat.reduceMul, Nat.reduceSub, Nat.reduceLT, Nat.reduceLeDiff, Nat.reduceEqDiff]
      (refine hK _ _ ?_; (try clear hK); (try clear K))
      have hgo : ∀ {env : Env} {st : St} (q' : R), Sub env [(1, .ref 1 0), (0, .ref 0 0)] → st = ⟨[rPV q', creC t cs], [cs.length]⟩ → q'.ok → creL m (cs ++ [(coM q').1]) (mustM [[44]] (coM q').2) = creL 10 [] q3 → (cs.length = 8 → q'.c ≠ 0) → K0 env st := by
        rintro env st q' hsub rfl hok' he hbad
        refine hK0 _ _ (PW.less _ hsub ?_)
        clear hK0 K0
        have hfit : (cs.length + 1) * 32 ≤ 140737488355328 := by omega
        have hmax : cs.length + 1 ≤ maxLen := by unfold maxLen; omega
        unfold creC
        refine PW.draws tab_ok mixed [] [(0, []), (1, []), (2, []), (3, []), (4, []), (5, []), (6, [4]), (7, []), (8, []), (9, []), (10, []), (11, [])] (by kernel_rfl) fun K hK => ?_
        simp only [go_sem, ↓reduceIte, reduceCtorEq, Nat.reduceBEq, Nat.reduceAdd, Nat.reduceMul, Nat.reduceSub, Nat.reduceLT, Nat.reduceLeDiff, Nat.reduceEqDiff]
        refine (columnOf_pc hok').use 0 rfl (Weaks.refl _) rfl ?_
        refine ⟨?_, GO.go tab_ok ?_⟩
        · simp only [go_sem, ↓reduceIte, reduceCtorEq, Nat.reduceBEq, Nat.reduceAdd, Nat.reduceMul, Nat.reduceSub, Nat.reduceLT, Nat.reduceLeDiff, Nat.reduceEqDiff]
        simp only [hfit, hmax, co_cells, go_sem, ↓reduceIte, reduceCtorEq, Nat.reduceBEq, Nat.reduceAdd, Nat.reduceMul, Nat.reduceSub, Nat.reduceLT, Nat.reduceLeDiff, Nat.reduceEqDiff]
        (refine hK _ _ ?_; (try clear hK); (try clear K))
        have h6 := coM_ok hok'
        have hb6 : q'.c ≠ 0 → (coM q').2.c ≠ 0 := fun hb => by rw [coM_bad hb]; exact hb
        generalize coM q' = z at h6 hb6 he ⊢
        refine PW.goL tab_ok [] fun K hK => ?_
        simp only [go_sem, ↓reduceIte, reduceCtorEq, Nat.reduceBEq, Nat.reduceAdd, Nat.reduceMul, Nat.reduceSub, Nat.reduceLT, Nat.reduceLeDiff, Nat.reduceEqDiff]
        refine (must_pc (ls := [[44]]) (by decide) h6).use 0 rfl (Weaks.refl _) rfl ?_; refine PO.go tab_ok [] ?_
        simp only [go_sem, ↓reduceIte, reduceCtorEq, Nat.reduceBEq, Nat.reduceAdd, Nat.reduceMul, Nat.reduceSub, Nat.reduceLT, Nat.reduceLeDiff, Nat.reduceEqDiff]
        (refine hK _ _ ?_; (try clear hK); (try clear K))
        have hb7 : z.2.c ≠ 0 → (mustM [[44]] z.2).c ≠ 0 := fun hb => by rw [mustM_bad hb]; exact hb
        refine ⟨(m, cs ++ [z.1], mustM [[44]] z.2), ⟨?_, ?_, mustM_ok h6, he⟩, by simp, by simp [Sub, eget], ?_, rfl⟩
        · simp; omega
        · simp only [List.length_append, List.length_cons, List.length_nil]
          by_cases h8 : cs.length = 8
          · exact .inr ⟨hb7 (hb6 (hbad h8)), by omega⟩
          · exact .inl (by omega)
        · have := (cre_good t (cs ++ [z.1]) (mustM [[44]] z.2) (cs ++ [z.1]).length).left
          simpa [creC, coPV] using this
      refine PW.cond_split (b := (cs.length : Int) == 8) rfl ?_ ?_ <;> intro hb
      · have h8 : cs.length = 8 := by have : (cs.length : Int) = 8 := by simpa using hb
                                      omega
        rw [if_pos h8] at he
        refine PW.goL tab_ok [] fun K hK => ?_
        simp only [go_sem, ↓reduceIte, reduceCtorEq, Nat.reduceBEq, Nat.reduceAdd, Nat.reduceMul, Nat.reduceSub, Nat.reduceLT, Nat.reduceLeDiff, Nat.reduceEqDiff]
        refine (fail_pc' hok 2).use 0 rfl (Weaks.refl _) rfl ?_; refine PO.go tab_ok [] ?_
        simp only [go_sem, ↓reduceIte, reduceCtorEq, Nat.reduceBEq, Nat.reduceAdd, Nat.reduceMul, Nat.reduceSub, Nat.reduceLT, Nat.reduceLeDiff, Nat.reduceEqDiff]
        (refine hK _ _ ?_; (try clear hK); (try clear K))
        exact hgo (failM 2 q) (by simp [Sub, eget]) rfl (failM_ok hok 2) he fun _ => failM_c 2 q (by decide)
      · have h8 : ¬ cs.length = 8 := by have : ¬ (cs.length : Int) = 8 := by simpa using hb
                                        omega
        rw [if_neg h8] at he
        exact PW.skip (hgo q (by simp [Sub, eget]) rfl hok he fun h => absurd h h8)
    have hqe : rdPV q.ts q.d q.c q.a = rPV q := rfl
    simp only [hqe]
    by_cases hcs : cs = []
    · have hl0 : (((cs.length : Nat) : Int) == 0) = true := by simp [hcs]
      rw [if_neg (by simp [hcs])] at he
      simp only [hc1, creC, hl0, go_sem, ↓reduceIte, reduceCtorEq, Nat.reduceBEq, Nat.reduceAdd, Nat.reduceMul, Nat.reduceSub, Nat.reduceLT, Nat.reduceLeDiff, Nat.reduceEqDiff]
      (refine hK _ _ ?_; (try clear hK); (try clear K))
      refine PW.cond_split (b := true) rfl ?_ ?_ <;> intro hb
      · exact PW.skip (hround (by simp [Sub, eget]) rfl he)
      · cases hb
    · have hl0 : (((cs.length : Nat) : Int) == 0) = false := by
        have : cs.length ≠ 0 := by simpa using hcs
        simp; omega
      simp only [hc1, creC, hl0, go_sem, ↓reduceIte, reduceCtorEq, Nat.reduceBEq, Nat.reduceAdd, Nat.reduceMul, Nat.reduceSub, Nat.reduceLT, Nat.reduceLeDiff, Nat.reduceEqDiff]
      refine (has_pc (s := sPRIM) hok).use 0 rfl (Weaks.refl _) rfl ?_; refine PO.go tab_ok [] ?_
      simp only [go_sem, ↓reduceIte, reduceCtorEq, Nat.reduceBEq, Nat.reduceAdd, Nat.reduceMul, Nat.reduceSub, Nat.reduceLT, Nat.reduceLeDiff, Nat.reduceEqDiff]
      (refine hK _ _ ?_; (try clear hK); (try clear K))
      refine PW.cond_split (b := !(hasM sPRIM q).1) rfl ?_ ?_ <;> intro hb
      · have hb' : (hasM sPRIM q).1 = false := by simpa using hb
        rw [if_neg (by simp [hb'])] at he
        refine PW.skip (hround (by simp [Sub, eget]) ?_ he)
        rw [hasM_no hb']
        rfl
      · have hb' : (hasM sPRIM q).1 = true := by simpa using hb
        rw [if_pos ⟨hcs, hb'⟩] at he
        exact PW.exit (hrest (cs, (hasM sPRIM q).2) (by simp [Sub, eget]) rfl (hasM_ok hok) he.symm)
  · have hc1 : (q.c == 0) = false := by simp [hc]
    rw [if_pos hc] at he
    simp only [hc1, go_sem, ↓reduceIte, reduceCtorEq, Nat.reduceBEq, Nat.reduceAdd, Nat.reduceMul, Nat.reduceSub, Nat.reduceLT, Nat.reduceLeDiff, Nat.reduceEqDiff]
    (refine hK _ _ ?_; (try clear hK); (try clear K))
    refine PW.cond_split (b := false) rfl ?_ ?_ <;> intro hb
    · cases hb
    · exact PW.exit (hrest (cs, q) (by simp [Sub, eget]) rfl hok he.symm)
end Go.Proofs.Ytolhbjfaahcekaa
end
section
/- The parser's statements: SELECT. -/
set_option linter.unusedVariables false
set_option linter.unusedSimpArgs false
namespace Go.Proofs.Ytolhbjfaahcekaa
open Go

def choOne (z : R × List Itm) : R × List Itm := ((itemM z.1).2, z.2 ++ [(itemM z.1).1])
def choB (s : List Itm) : List (List PV) := midB 6 [] nilPV nilPV (.list 2 (s.map itPV) (.own 0))
theorem chooseIn_pc {q : R} {s : List Itm} (h : q.ok) (hd : q.d = 0) (hs : s.length ≤ 1000) : PC Try.prog 49 [.ref 3 0, .ref 2 0] ⟨rPV q :: choB s, [s.length]⟩ fun x st' => x = .tup [] ∧ st' = ⟨rPV (choOne (q, s)).1 :: choB (choOne (q, s)).2, [(choOne (q, s)).2.length]⟩ := by
  have hfit : (s.length + 1) * 32 ≤ 140737488355328 := by omega
  have hmax : s.length + 1 ≤ maxLen := by unfold maxLen; omega
  unfold choB midB midC
  refine PC.intro tab_ok Try.func49 rfl (by kernel_rfl) Try.ntmps49 (Nat.le_of_ble_eq_true rfl) (rs := _) (congrArg Array.toList Try.results49) ?_
  refine PW.draw tab_ok mixed [] [(0, []), (1, []), (2, []), (3, []), (4, []), (5, []), (6, [0, 1, 4]), (7, []), (8, [0, 1, 5]), (9, []), (10, []), (11, [])] (by kernel_rfl) fun K hK => ?_
  simp only [go_sem, ↓reduceIte, reduceCtorEq, Nat.reduceBEq, Nat.reduceAdd, Nat.reduceMul, Nat.reduceSub, Nat.reduceLT, Nat.reduceLeDiff, Nat.reduceEqDiff]
  refine (item_pc h hd).use 0 rfl (Weaks.refl _) rfl ?_
  refine ⟨?_, ?_, ?_, GO.go tab_ok ?_⟩
  · simp only [go_sem, ↓reduceIte, reduceCtorEq, Nat.reduceBEq, Nat.reduceAdd, Nat.reduceMul, Nat.reduceSub, Nat.reduceLT, Nat.reduceLeDiff, Nat.reduceEqDiff]
  · simp only [go_sem, ↓reduceIte, reduceCtorEq, Nat.reduceBEq, Nat.reduceAdd, Nat.reduceMul, Nat.reduceSub, Nat.reduceLT, Nat.reduceLeDiff, Nat.reduceEqDiff]
  · simp only [go_sem, ↓reduceIte, reduceCtorEq, Nat.reduceBEq, Nat.reduceAdd, Nat.reduceMul, Nat.reduceSub, Nat.reduceLT, Nat.reduceLeDiff, Nat.reduceEqDiff]
  simp only [itPV, hfit, hmax, go_sem, ↓reduceIte, reduceCtorEq, Nat.reduceBEq, Nat.reduceAdd, Nat.reduceMul, Nat.reduceSub, Nat.reduceLT, Nat.reduceLeDiff, Nat.reduceEqDiff]
  (refine hK _ _ ?_; (try clear hK); (try clear K))
  exact Ends.all (.inr rfl) (by simp [choOne, itPV]) (mid_good ⟨rfl, rfl, rfl⟩ ⟨rfl, rfl, by simp [PV.clean, clean_map (it_clean 4 1)]⟩ _) (by simp) (by simp)
theorem itemM_bad {r : R} (h : r.c ≠ 0) : (itemM r).2.c ≠ 0 := by
  simp only [itemM, passM_bad h]
  exact exprM_bad h
theorem cho_reads : Reads (List Itm) 49 [.ref 3 0, .ref 2 0] choOne choB (fun s => [s.length]) (fun m q s => q.ok ∧ q.d = 0 ∧ s.length + m ≤ 100) 3 1 where
  pc := fun m q s h => chooseIn_pc h.1 h.2.1 (by omega)
  nb := fun _ => rfl
  nl := fun _ => rfl
  ok := fun m q s h => h.1
  aft := fun m q s h => itemM_ok h.1
  good := fun s q => mid_good ⟨rfl, rfl, rfl⟩ ⟨rfl, rfl, by simp [PV.clean, clean_map (it_clean 4 1)]⟩ q
  next := fun m q s h => ⟨hasM_ok (itemM_ok h.1), by rw [hasM_d]; exact (itemM_d q).trans h.2.1, by simp [choOne]; omega⟩
  fail := fun q s h => ⟨failM_ok h.1 2, by rw [failM_d, h.2.1], h.2.2⟩
  bad := fun q s h hc => itemM_bad hc
/-- What a join is of, its ON. -/
def joinM (r : R) : (Str × Option Ex) × R :=
  if (hasM [74, 79, 73, 78] r).1 then (((nameM (hasM [74, 79, 73, 78] r).2).1, some (exprM (mustM [[79, 78]] (nameM (hasM [74, 79, 73, 78] r).2).2)).1), (exprM (mustM [[79, 78]] (nameM (hasM [74, 79, 73, 78] r).2).2)).2)
  else (([], none), (hasM [74, 79, 73, 78] r).2)
theorem joinM_ok {r : R} (h : r.ok) : (joinM r).2.ok := by
  unfold joinM
  split
  · exact exprM_sh.ok _ (mustM_ok (nameM_ok (hasM_ok h)))
  · exact hasM_ok h
theorem joinM_d (r : R) : (joinM r).2.d = r.d := by
  unfold joinM
  split
  · rw [exprM_sh.dd, mustM_d, nameM_d, hasM_d]
  · exact hasM_d _ _
def descM (o : Option Ex) (r : R) : Bool × R := match o with
  | some _ => hasM [68, 69, 83, 67] r
  | none => (false, r)
theorem descM_ok {o : Option Ex} {r : R} (h : r.ok) : (descM o r).2.ok := by
  cases o
  · exact h
  · exact hasM_ok h
theorem descM_d (o : Option Ex) (r : R) : (descM o r).2.d = r.d := by
  cases o
  · rfl
  · exact hasM_d _ _
def limM (r : R) : Int × R := if (hasM [76, 73, 77, 73, 84] r).1 then ((takeM 3 (hasM [76, 73, 77, 73, 84] r).2).1.num, (takeM 3 (hasM [76, 73, 77, 73, 84] r).2).2) else (-1, (hasM [76, 73, 77, 73, 84] r).2)
theorem limM_ok {r : R} (h : r.ok) : (limM r).2.ok := by
  unfold limM
  split
  · exact takeM_ok (by decide) (hasM_ok h)
  · exact hasM_ok h
theorem limM_d (r : R) : (limM r).2.d = r.d := by
  unfold limM
  split
  · rw [takeM_d, hasM_d]
  · exact hasM_d _ _
def chooseM (r : R) : Stm × R :=
  let z := manyM choOne 8 (r, [])
  let t := nameM (mustM [[70, 82, 79, 77]] z.1)
  let j := joinM t.2
  let w := maybeM [87, 72, 69, 82, 69] j.2
  let g := byM [71, 82, 79, 85, 80] w.2
  let o := byM [79, 82, 68, 69, 82] g.2
  let d := descM o.1 o.2
  let l := limM d.2
  (⟨6, t.1, [], [], [], [], z.2, j.1.1, j.1.2.toList, w.1.toList, g.1.toList, o.1.toList, d.1, l.1⟩, l.2)
theorem chooseM_ok {r : R} (h : r.ok) : (chooseM r).2.ok := limM_ok (descM_ok (byM_ok (byM_ok (maybeM_ok (joinM_ok (nameM_ok (mustM_ok (many_ok (fun q s h => itemM_ok h) 8 _ _ h))))))))
theorem chooseM_d (r : R) : (chooseM r).2.d = r.d := by
  simp only [chooseM]
  rw [limM_d, descM_d, byM_d, byM_d, maybeM_d, joinM_d, nameM_d, mustM_d, many_d (fun q s => itemM_d q)]
/-- The statement, when so much is read. -/
def selC (t : Str) (items : List Itm) (j : Str) (on w g o : Option Ex) (d : Bool) (l : Int) : List PV :=
  [.int .i64 6, .str t, nilPV, .str [], nilPV, nilPV, .list 2 (items.map itPV) .no, .str j, optPV on, optPV w, optPV g, optPV o, .bool d, .int .i64 l]
set_option maxHeartbeats 2000000 in
theorem choose_pc {r : R} (h : r.ok) (hd : r.d = 0) : TwoS 28 r 6 (chooseM r).1 (chooseM r).2 := by
  have hz : chooseM r = chooseM r := rfl
  conv at hz => rhs; unfold chooseM
  simp only at hz
  unfold TwoS
  refine PC.intro tab_ok Try.func28 rfl (by kernel_rfl) Try.ntmps28 (Nat.le_of_ble_eq_true rfl) (rs := _) (congrArg Array.toList Try.results28) ?_
  (repeat (refine PW.go tab_ok [] fun K hK => ?_; simp only [go_sem, ↓reduceIte, reduceCtorEq, Nat.reduceBEq, Nat.reduceAdd, Nat.reduceMul, Nat.reduceSub, Nat.reduceLT, Nat.reduceLeDiff, Nat.reduceEqDiff]; (refine hK _ _ ?_; clear hK K)))
  refine PW.adopt ?_
  refine PW.forget [(3, .ref 3 0), (2, .ref 2 0), (1, .ref 1 0), (0, .ref 0 0)] ⟨rPV r :: choB [], [0]⟩ (by simp [Sub, eget]) ⟨?_, rfl, (cho_reads.good [] r).clean⟩ rfl (Nat.le_refl _) (Nat.le_refl _) ?_
  · simp [stC0, choB, midB, midC, nilPV, Weaks.refl, Weak.nil, PV.isCell, r_all, rPV, rdPV]
  refine PW.go tab_ok [] fun K hK => ?_
  simp only [choB, midB, go_sem, ↓reduceIte, reduceCtorEq, Nat.reduceBEq, Nat.reduceAdd, Nat.reduceMul, Nat.reduceSub, Nat.reduceLT, Nat.reduceLeDiff, Nat.reduceEqDiff]
  refine (many_pc cho_reads 8 (by omega) (q0 := r) (s0 := []) ⟨h, hd, by simp⟩ rfl).mono ?_
  rintro x st' ⟨rfl, rfl⟩
  have h1 := many_ok (one := choOne) (fun q s h => itemM_ok h) 8 r [] h
  have hd1 : (manyM choOne 8 (r, [])).1.d = 0 := by rw [many_d (one := choOne) (fun q s => itemM_d q), hd]
  generalize manyM choOne 8 (r, []) = z at h1 hd1 hz ⊢
  obtain ⟨q1, is⟩ := z
  simp only at h1 hd1 hz ⊢
  refine PO.go tab_ok [] ?_
  simp only [choB, midB, midC, go_sem, ↓reduceIte, reduceCtorEq, Nat.reduceBEq, Nat.reduceAdd, Nat.reduceMul, Nat.reduceSub, Nat.reduceLT, Nat.reduceLeDiff, Nat.reduceEqDiff]
  (refine hK _ _ ?_; (try clear hK); (try clear K))
  have hgood : ∀ (q : R) (t : Str) (j : Str) (on w g o : Option Ex) (d : Bool) (l : Int), StOk ⟨[rPV q, selC t is j on w g o d l, [.ref 0 0], [.ref 1 0]], [is.length]⟩ := by
    intro q t j on w g o d l
    refine StOk.mk' fun cs hc => ?_
    simp only [List.mem_cons, List.not_mem_nil, or_false] at hc
    rcases hc with rfl | rfl | rfl | rfl
    · exact ⟨r_all q, PVs.clean_data (r_clean q)⟩
    · refine ⟨by simp only [selC, List.all_cons, List.all_nil, opt_isCell]; rfl, ?_⟩
      simp only [selC, PVs.clean, PV.clean, clean_map (it_clean _ _), PV.clean_data (opt_clean on), PV.clean_data (opt_clean w), PV.clean_data (opt_clean g), PV.clean_data (opt_clean o)]
      rfl
    · exact ⟨rfl, rfl⟩
    · exact ⟨rfl, rfl⟩
  refine PW.forget [(3, .ref 3 0), (2, .ref 2 0)] ⟨[rPV q1, selC [] is [] none none none none false (-1), [.ref 0 0], [.ref 1 0]], [is.length]⟩ (by simp [Sub, eget]) ⟨?_, rfl, (hgood _ _ _ _ _ _ _ _ _).clean⟩ rfl (Nat.le_refl _) (Nat.le_refl _) ?_
  · simp [selC, optPV, nilPV, Weaks.refl, Weak.no, PV.isCell, r_all, rPV, rdPV]
  unfold selC
  refine PW.go tab_ok [] fun K hK => ?_
  simp only [go_sem, ↓reduceIte, reduceCtorEq, Nat.reduceBEq, Nat.reduceAdd, Nat.reduceMul, Nat.reduceSub, Nat.reduceLT, Nat.reduceLeDiff, Nat.reduceEqDiff]
  refine (must_pc (ls := [[70, 82, 79, 77]]) (by decide) h1).use 0 rfl (Weaks.refl _) rfl ?_; refine PO.go tab_ok [] ?_
  simp only [go_sem, ↓reduceIte, reduceCtorEq, Nat.reduceBEq, Nat.reduceAdd, Nat.reduceMul, Nat.reduceSub, Nat.reduceLT, Nat.reduceLeDiff, Nat.reduceEqDiff]
  (refine hK _ _ ?_; (try clear hK); (try clear K))
  have h2 := mustM_ok (ls := [[70, 82, 79, 77]]) h1
  have hd2 : (mustM [[70, 82, 79, 77]] q1).d = 0 := by rw [mustM_d, hd1]
  generalize mustM [[70, 82, 79, 77]] q1 = q2 at h2 hd2 hz ⊢
  refine PW.draws tab_ok mixed [] [(0, []), (1, []), (2, [0]), (3, []), (4, []), (5, [])] (by kernel_rfl) fun K hK => ?_
  simp only [go_sem, ↓reduceIte, reduceCtorEq, Nat.reduceBEq, Nat.reduceAdd, Nat.reduceMul, Nat.reduceSub, Nat.reduceLT, Nat.reduceLeDiff, Nat.reduceEqDiff]
  refine (name_pc h2).use 0 rfl (Weaks.refl _) rfl ?_
  refine ⟨?_, GO.go tab_ok ?_⟩
  · simp only [go_sem, ↓reduceIte, reduceCtorEq, Nat.reduceBEq, Nat.reduceAdd, Nat.reduceMul, Nat.reduceSub, Nat.reduceLT, Nat.reduceLeDiff, Nat.reduceEqDiff]
  simp only [go_sem, ↓reduceIte, reduceCtorEq, Nat.reduceBEq, Nat.reduceAdd, Nat.reduceMul, Nat.reduceSub, Nat.reduceLT, Nat.reduceLeDiff, Nat.reduceEqDiff]
  (refine hK _ _ ?_; (try clear hK); (try clear K))
  have h3 := nameM_ok h2
  have hd3 : (nameM q2).2.d = 0 := by rw [nameM_d, hd2]
  generalize nameM q2 = z at h3 hd3 hz ⊢
  obtain ⟨t, q3⟩ := z
  simp only at h3 hd3 hz ⊢
  refine PW.seq_k fun K0 hK0 => ?_
  have hw : ∀ {env : Env} {st : St}, Sub env [(3, .ref 3 0), (2, .ref 2 0)] → st = ⟨[rPV (joinM q3).2, selC t is (joinM q3).1.1 (joinM q3).1.2 none none none false (-1), [.ref 0 0], [.ref 1 0]], [is.length]⟩ → K0 env st := by
    rintro env st hsub rfl
    refine hK0 _ _ (PW.less _ hsub ?_)
    clear hK0 K0
    have h4 := joinM_ok h3
    have hd4 : (joinM q3).2.d = 0 := by rw [joinM_d, hd3]
    generalize joinM q3 = z at h4 hd4 hz ⊢
    obtain ⟨⟨j, on⟩, q4⟩ := z
    simp only at h4 hd4 hz ⊢
    unfold selC
    refine PW.draws tab_ok mixed [] [(0, []), (1, []), (2, [0]), (3, []), (4, []), (5, [])] (by kernel_rfl) fun K hK => ?_
    simp only [go_sem, ↓reduceIte, reduceCtorEq, Nat.reduceBEq, Nat.reduceAdd, Nat.reduceMul, Nat.reduceSub, Nat.reduceLT, Nat.reduceLeDiff, Nat.reduceEqDiff]
    refine (maybe_pc (w := [87, 72, 69, 82, 69]) h4 hd4).use 0 rfl (Weaks.refl _) rfl ?_
    refine ⟨?_, GO.go tab_ok ?_⟩
    · simp only [go_sem, ↓reduceIte, reduceCtorEq, Nat.reduceBEq, Nat.reduceAdd, Nat.reduceMul, Nat.reduceSub, Nat.reduceLT, Nat.reduceLeDiff, Nat.reduceEqDiff]
    simp only [go_sem, ↓reduceIte, reduceCtorEq, Nat.reduceBEq, Nat.reduceAdd, Nat.reduceMul, Nat.reduceSub, Nat.reduceLT, Nat.reduceLeDiff, Nat.reduceEqDiff]
    (refine hK _ _ ?_; (try clear hK); (try clear K))
    have h5 := maybeM_ok (w := [87, 72, 69, 82, 69]) h4
    have hd5 : (maybeM [87, 72, 69, 82, 69] q4).2.d = 0 := by rw [maybeM_d, hd4]
    generalize maybeM [87, 72, 69, 82, 69] q4 = z at h5 hd5 hz ⊢
    obtain ⟨w, q5⟩ := z
    simp only at h5 hd5 hz ⊢
    refine PW.draws tab_ok mixed [] [(0, []), (1, []), (2, [0]), (3, []), (4, []), (5, [])] (by kernel_rfl) fun K hK => ?_
    simp only [go_sem, ↓reduceIte, reduceCtorEq, Nat.reduceBEq, Nat.reduceAdd, Nat.reduceMul, Nat.reduceSub, Nat.reduceLT, Nat.reduceLeDiff, Nat.reduceEqDiff]
    refine (by_pc (w := [71, 82, 79, 85, 80]) h5).use 0 rfl (Weaks.refl _) rfl ?_
    refine ⟨?_, GO.go tab_ok ?_⟩
    · simp only [go_sem, ↓reduceIte, reduceCtorEq, Nat.reduceBEq, Nat.reduceAdd, Nat.reduceMul, Nat.reduceSub, Nat.reduceLT, Nat.reduceLeDiff, Nat.reduceEqDiff]
    simp only [go_sem, ↓reduceIte, reduceCtorEq, Nat.reduceBEq, Nat.reduceAdd, Nat.reduceMul, Nat.reduceSub, Nat.reduceLT, Nat.reduceLeDiff, Nat.reduceEqDiff]
    (refine hK _ _ ?_; (try clear hK); (try clear K))
    have h6 := byM_ok (w := [71, 82, 79, 85, 80]) h5
    generalize byM [71, 82, 79, 85, 80] q5 = z at h6 hz ⊢
    obtain ⟨g, q6⟩ := z
    simp only at h6 hz ⊢
    refine PW.seq_k fun K0 hK0 => ?_
    refine PW.draws tab_ok mixed [] [(0, []), (1, []), (2, [0]), (3, []), (4, []), (5, [])] (by kernel_rfl) fun K hK => ?_
    simp only [go_sem, ↓reduceIte, reduceCtorEq, Nat.reduceBEq, Nat.reduceAdd, Nat.reduceMul, Nat.reduceSub, Nat.reduceLT, Nat.reduceLeDiff, Nat.reduceEqDiff]
    refine (by_pc (w := [79, 82, 68, 69, 82]) h6).use 0 rfl (Weaks.refl _) rfl ?_
    refine ⟨?_, GO.go tab_ok ?_⟩
    · simp only [go_sem, ↓reduceIte, reduceCtorEq, Nat.reduceBEq, Nat.reduceAdd, Nat.reduceMul, Nat.reduceSub, Nat.reduceLT, Nat.reduceLeDiff, Nat.reduceEqDiff]
    simp only [go_sem, ↓reduceIte, reduceCtorEq, Nat.reduceBEq, Nat.reduceAdd, Nat.reduceMul, Nat.reduceSub, Nat.reduceLT, Nat.reduceLeDiff, Nat.reduceEqDiff]
    (refine hK _ _ ?_; (try clear hK); (try clear K))
    have h7 := byM_ok (w := [79, 82, 68, 69, 82]) h6
    generalize byM [79, 82, 68, 69, 82] q6 = z at h7 hz ⊢
    obtain ⟨o, q7⟩ := z
    simp only at h7 hz ⊢
    have hl : ∀ {env : Env} {st : St}, Sub env [(3, .ref 3 0), (2, .ref 2 0)] → st = ⟨[rPV (descM o q7).2, selC t is j on w g o (descM o q7).1 (-1), [.ref 0 0], [.ref 1 0]], [is.length]⟩ → K0 env st := by
      rintro env st hsub rfl
      refine hK0 _ _ (PW.less _ hsub ?_)
      clear hK0 K0
      have h8 := descM_ok (o := o) h7
      generalize descM o q7 = z at h8 hz ⊢
      obtain ⟨d, q8⟩ := z
      simp only at h8 hz ⊢
      unfold selC
      refine PW.go tab_ok [] fun K hK => ?_
      simp only [go_sem, ↓reduceIte, reduceCtorEq, Nat.reduceBEq, Nat.reduceAdd, Nat.reduceMul, Nat.reduceSub, Nat.reduceLT, Nat.reduceLeDiff, Nat.reduceEqDiff]
      refine (has_pc (s := [76, 73, 77, 73, 84]) h8).use 0 rfl (Weaks.refl _) rfl ?_; refine PO.go tab_ok [] ?_
      simp only [go_sem, ↓reduceIte, reduceCtorEq, Nat.reduceBEq, Nat.reduceAdd, Nat.reduceMul, Nat.reduceSub, Nat.reduceLT, Nat.reduceLeDiff, Nat.reduceEqDiff]
      (refine hK _ _ ?_; (try clear hK); (try clear K))
      refine PW.cond_split (b := (hasM [76, 73, 77, 73, 84] q8).1) rfl ?_ ?_ <;> intro hb
      · have hlim : limM q8 = ((takeM 3 (hasM [76, 73, 77, 73, 84] q8).2).1.num, (takeM 3 (hasM [76, 73, 77, 73, 84] q8).2).2) := by simp [limM, hb]
        refine PW.draw tab_ok mixed [] [(0, []), (1, []), (2, [0]), (3, []), (4, []), (5, []), (6, [])] (by kernel_rfl) fun K hK => ?_
        simp only [go_sem, ↓reduceIte, reduceCtorEq, Nat.reduceBEq, Nat.reduceAdd, Nat.reduceMul, Nat.reduceSub, Nat.reduceLT, Nat.reduceLeDiff, Nat.reduceEqDiff]
        refine (take_pc (k := 3) (hasM_ok h8)).use 0 rfl (Weaks.refl _) rfl ?_
        refine ⟨?_, GO.go tab_ok ?_⟩
        · simp only [go_sem, ↓reduceIte, reduceCtorEq, Nat.reduceBEq, Nat.reduceAdd, Nat.reduceMul, Nat.reduceSub, Nat.reduceLT, Nat.reduceLeDiff, Nat.reduceEqDiff]
        simp only [tokPV, go_sem, ↓reduceIte, reduceCtorEq, Nat.reduceBEq, Nat.reduceAdd, Nat.reduceMul, Nat.reduceSub, Nat.reduceLT, Nat.reduceLeDiff, Nat.reduceEqDiff]
        (refine hK _ _ ?_; (try clear hK); (try clear K))
        rw [hz, hlim]
        refine TwoS.fin (.inr rfl) ?_
        (repeat (first | exact .nil | refine .cons (by first | exact .refl _ | exact Weak.nil _ _ _ | exact Weak.no _ _ _ | exact opt_weak _) ?_))
      · have hlim : limM q8 = (-1, (hasM [76, 73, 77, 73, 84] q8).2) := by simp [limM, hb]
        refine PW.skip ?_
        rw [hz, hlim]
        refine TwoS.fin (.inr rfl) ?_
        (repeat (first | exact .nil | refine .cons (by first | exact .refl _ | exact Weak.nil _ _ _ | exact Weak.no _ _ _ | exact opt_weak _) ?_))
    unfold selC at hl
    refine PW.go tab_ok [] fun K hK => ?_
    cases o with
    | none =>
      simp only [optPV, nilPV, fNil, isNilC, nilness, Bool.not_true, go_sem, ↓reduceIte, reduceCtorEq, Nat.reduceBEq, Nat.reduceAdd, Nat.reduceMul, Nat.reduceSub, Nat.reduceLT, Nat.reduceLeDiff, Nat.reduceEqDiff]
      (refine hK _ _ ?_; (try clear hK); (try clear K))
      refine PW.cond_split (b := false) rfl ?_ ?_ <;> intro hb
      · cases hb
      · exact PW.skip (hl (by simp [Sub, eget]) rfl)
    | some e =>
      simp only [optPV, nilPV, fNil, isNilC, nilness, Bool.not_false, go_sem, ↓reduceIte, reduceCtorEq, Nat.reduceBEq, Nat.reduceAdd, Nat.reduceMul, Nat.reduceSub, Nat.reduceLT, Nat.reduceLeDiff, Nat.reduceEqDiff]
      (refine hK _ _ ?_; (try clear hK); (try clear K))
      refine PW.cond_split (b := true) rfl ?_ ?_ <;> intro hb
      · refine PW.draw tab_ok mixed [] [(0, []), (1, []), (2, [0]), (3, []), (4, []), (5, [])] (by kernel_rfl) fun K hK => ?_
        simp only [go_sem, ↓reduceIte, reduceCtorEq, Nat.reduceBEq, Nat.reduceAdd, Nat.reduceMul, Nat.reduceSub, Nat.reduceLT, Nat.reduceLeDiff, Nat.reduceEqDiff]
        refine (has_pc (s := [68, 69, 83, 67]) h7).use 0 rfl (Weaks.refl _) rfl ?_
        refine ⟨?_, GO.go tab_ok ?_⟩
        · simp only [go_sem, ↓reduceIte, reduceCtorEq, Nat.reduceBEq, Nat.reduceAdd, Nat.reduceMul, Nat.reduceSub, Nat.reduceLT, Nat.reduceLeDiff, Nat.reduceEqDiff]
        simp only [go_sem, ↓reduceIte, reduceCtorEq, Nat.reduceBEq, Nat.reduceAdd, Nat.reduceMul, Nat.reduceSub, Nat.reduceLT, Nat.reduceLeDiff, Nat.reduceEqDiff]
        (refine hK _ _ ?_; (try clear hK); (try clear K))
        exact hl (by simp [Sub, eget]) rfl
      · cases hb
  refine PW.go tab_ok [] fun K hK => ?_
  simp only [go_sem, ↓reduceIte, reduceCtorEq, Nat.reduceBEq, Nat.reduceAdd, Nat.reduceMul, Nat.reduceSub, Nat.reduceLT, Nat.reduceLeDiff, Nat.reduceEqDiff]
  refine (has_pc (s := [74, 79, 73, 78]) h3).use 0 rfl (Weaks.refl _) rfl ?_; refine PO.go tab_ok [] ?_
  simp only [go_sem, ↓reduceIte, reduceCtorEq, Nat.reduceBEq, Nat.reduceAdd, Nat.reduceMul, Nat.reduceSub, Nat.reduceLT, Nat.reduceLeDiff, Nat.reduceEqDiff]
  (refine hK _ _ ?_; (try clear hK); (try clear K))
  refine PW.cond_split (b := (hasM [74, 79, 73, 78] q3).1) rfl ?_ ?_ <;> intro hb
  · have hj : joinM q3 = (((nameM (hasM [74, 79, 73, 78] q3).2).1, some (exprM (mustM [[79, 78]] (nameM (hasM [74, 79, 73, 78] q3).2).2)).1), (exprM (mustM [[79, 78]] (nameM (hasM [74, 79, 73, 78] q3).2).2)).2) := by simp [joinM, hb]
    have h4 := hasM_ok (s := [74, 79, 73, 78]) h3
    have hd4 : (hasM [74, 79, 73, 78] q3).2.d = 0 := by rw [hasM_d, hd3]
    refine PW.draws tab_ok mixed [] [(0, []), (1, []), (2, [0]), (3, []), (4, []), (5, [])] (by kernel_rfl) fun K hK => ?_
    simp only [go_sem, ↓reduceIte, reduceCtorEq, Nat.reduceBEq, Nat.reduceAdd, Nat.reduceMul, Nat.reduceSub, Nat.reduceLT, Nat.reduceLeDiff, Nat.reduceEqDiff]
    refine (name_pc h4).use 0 rfl (Weaks.refl _) rfl ?_
    refine ⟨?_, GO.go tab_ok ?_⟩
    · simp only [go_sem, ↓reduceIte, reduceCtorEq, Nat.reduceBEq, Nat.reduceAdd, Nat.reduceMul, Nat.reduceSub, Nat.reduceLT, Nat.reduceLeDiff, Nat.reduceEqDiff]
    simp only [go_sem, ↓reduceIte, reduceCtorEq, Nat.reduceBEq, Nat.reduceAdd, Nat.reduceMul, Nat.reduceSub, Nat.reduceLT, Nat.reduceLeDiff, Nat.reduceEqDiff]
    (refine hK _ _ ?_; (try clear hK); (try clear K))
    have h5 := nameM_ok h4
    have hd5 : (nameM (hasM [74, 79, 73, 78] q3).2).2.d = 0 := by rw [nameM_d, hd4]
    refine PW.go tab_ok [] fun K hK => ?_
    simp only [go_sem, ↓reduceIte, reduceCtorEq, Nat.reduceBEq, Nat.reduceAdd, Nat.reduceMul, Nat.reduceSub, Nat.reduceLT, Nat.reduceLeDiff, Nat.reduceEqDiff]
    refine (must_pc (ls := [[79, 78]]) (by decide) h5).use 0 rfl (Weaks.refl _) rfl ?_; refine PO.go tab_ok [] ?_
    simp only [go_sem, ↓reduceIte, reduceCtorEq, Nat.reduceBEq, Nat.reduceAdd, Nat.reduceMul, Nat.reduceSub, Nat.reduceLT, Nat.reduceLeDiff, Nat.reduceEqDiff]
    (refine hK _ _ ?_; (try clear hK); (try clear K))
    refine PW.draw tab_ok mixed [] [(0, []), (1, []), (2, [0]), (3, []), (4, []), (5, []), (6, [])] (by kernel_rfl) fun K hK => ?_
    simp only [go_sem, ↓reduceIte, reduceCtorEq, Nat.reduceBEq, Nat.reduceAdd, Nat.reduceMul, Nat.reduceSub, Nat.reduceLT, Nat.reduceLeDiff, Nat.reduceEqDiff]
    refine (expr_pc (mustM_ok (ls := [[79, 78]]) h5) (by rw [mustM_d, hd5])).use 0 rfl (Weaks.refl _) rfl ?_
    refine ⟨?_, GO.go tab_ok ?_⟩
    · simp only [go_sem, ↓reduceIte, reduceCtorEq, Nat.reduceBEq, Nat.reduceAdd, Nat.reduceMul, Nat.reduceSub, Nat.reduceLT, Nat.reduceLeDiff, Nat.reduceEqDiff]
    simp only [go_sem, ↓reduceIte, reduceCtorEq, Nat.reduceBEq, Nat.reduceAdd, Nat.reduceMul, Nat.reduceSub, Nat.reduceLT, Nat.reduceLeDiff, Nat.reduceEqDiff]
    (refine hK _ _ ?_; (try clear hK); (try clear K))
    exact hw (by simp [Sub, eget]) (by rw [hj]; rfl)
  · have hj : joinM q3 = (([], none), (hasM [74, 79, 73, 78] q3).2) := by simp [joinM, hb]
    exact PW.skip (hw (by simp [Sub, eget]) (by rw [hj]; rfl))
end Go.Proofs.Ytolhbjfaahcekaa
end
section
/- The parser's statements: one; a script. -/
set_option linter.unusedVariables false
set_option linter.unusedSimpArgs false
namespace Go.Proofs.Ytolhbjfaahcekaa
open Go

theorem stC_len (s : Stm) : (stC s).length = 14 := rfl
theorem stC_take (s : Stm) : (stC s).take 14 = stC s := rfl
theorem stC_drop (s : Stm) : (stC s).drop 14 = [] := rfl
theorem stC_all (s : Stm) : (stC s).all PV.isCell = true := rfl
theorem agg_stC (s : Stm) : PV.agg (stC s) = stPV1 s := rfl
theorem stPV1_cells (s : Stm) : (stPV1 s).cells = stC s := rfl
theorem stPV1_isAgg (s : Stm) : (stPV1 s).isAgg = true := rfl
theorem stPV1_clean (n m : Nat) (s : Stm) : PV.clean n m (stPV1 s) = true := st_clean n m s
attribute [go_sem] stC_len stC_take stC_drop stC_all agg_stC stPV1_cells stPV1_isAgg
def stOps : List Str := [[67, 82, 69, 65, 84, 69], [68, 82, 79, 80], [73, 78, 83, 69, 82, 84], [85, 80, 68, 65, 84, 69], [68, 69, 76, 69, 84, 69], [83, 69, 76, 69, 67, 84]]
def stateM (r : R) : Stm × R :=
  if (passM stOps r).1 = -1 then (stm0 0, failM 4 (passM stOps r).2)
  else if (passM stOps r).1 = 0 then createM (passM stOps r).2
  else if (passM stOps r).1 = 1 then dropM (passM stOps r).2
  else if (passM stOps r).1 = 2 then insertM (passM stOps r).2
  else if (passM stOps r).1 = 3 then updateM (passM stOps r).2
  else if (passM stOps r).1 = 4 then removeM (passM stOps r).2
  else chooseM (passM stOps r).2
theorem dropM_d (r : R) : (dropM r).2.d = r.d := by simp only [dropM, nameM_d, mustM_d]
theorem removeM_d (r : R) : (removeM r).2.d = r.d := by simp only [removeM, maybeM_d, nameM_d, mustM_d]
theorem stateM_ok {r : R} (h : r.ok) : (stateM r).2.ok := by
  have h1 := passM_ok (ls := stOps) h
  unfold stateM
  (repeat' split)
  · exact failM_ok h1 4
  · exact createM_ok h1
  · exact dropM_ok h1
  · exact insertM_ok h1
  · exact updateM_ok h1
  · exact removeM_ok h1
  · exact chooseM_ok h1
theorem stateM_d (r : R) : (stateM r).2.d = r.d := by
  have h1 := passM_d stOps r
  unfold stateM
  rw [← h1]
  (repeat' split)
  · exact failM_d _ _
  · exact createM_d _
  · exact dropM_d _
  · exact insertM_d _
  · exact updateM_d _
  · exact removeM_d _
  · exact chooseM_d _
theorem passM_ge (ls : List Str) (r : R) : -1 ≤ (passM ls r).1 := by
  simp only [passM, isM]
  split
  · exact (idx_ge ls _).1
  · omega
theorem stateM_bad {r : R} (h : r.c ≠ 0) : stateM r = (stm0 0, r) := by simp [stateM, passM_bad h, failM_bad h]
def stZ : List PV := [.int .i64 0, .str [], nilPV, .str [], nilPV, nilPV, nilPV, .str [], nilPV, nilPV, nilPV, nilPV, .bool false, .int .i64 0]
set_option maxHeartbeats 1000000 in
theorem state_pc {r : R} (h : r.ok) (hd : r.d = 0) : OneM Try.prog 15 [] r (stPV1 (stateM r).1) (stateM r).2 := by
  have hz : stateM r = stateM r := rfl
  conv at hz => rhs; unfold stateM
  have h1 := passM_ok (ls := stOps) h
  have hd1 : (passM stOps r).2.d = 0 := by rw [passM_d, hd]
  have hhi : (passM stOps r).1 < 6 := passM_lt_len stOps r
  have hlo : -1 ≤ (passM stOps r).1 := passM_ge stOps r
  refine PC.intro tab_ok Try.func15 rfl (by kernel_rfl) Try.ntmps15 (Nat.le_of_ble_eq_true rfl) (rs := _) (congrArg Array.toList Try.results15) ?_
  (repeat (refine PW.go tab_ok [] fun K hK => ?_; simp only [go_sem, ↓reduceIte, reduceCtorEq, Nat.reduceBEq, Nat.reduceAdd, Nat.reduceMul, Nat.reduceSub, Nat.reduceLT, Nat.reduceLeDiff, Nat.reduceEqDiff]; (refine hK _ _ ?_; clear hK K)))
  refine PW.seq_k fun K0 hK0 => ?_
  refine PW.go tab_ok [] fun K hK => ?_
  simp only [go_sem, ↓reduceIte, reduceCtorEq, Nat.reduceBEq, Nat.reduceAdd, Nat.reduceMul, Nat.reduceSub, Nat.reduceLT, Nat.reduceLeDiff, Nat.reduceEqDiff]
  refine (pass_pc (ls := stOps) (by decide) h).use 0 rfl (Weaks.refl _) rfl ?_; refine PO.go tab_ok [] ?_
  simp only [go_sem, ↓reduceIte, reduceCtorEq, Nat.reduceBEq, Nat.reduceAdd, Nat.reduceMul, Nat.reduceSub, Nat.reduceLT, Nat.reduceLeDiff, Nat.reduceEqDiff]
  (refine hK _ _ ?_; (try clear hK); (try clear K))
  generalize passM stOps r = z at h1 hd1 hlo hhi hz ⊢
  obtain ⟨k, q⟩ := z
  simp only at h1 hd1 hlo hhi hz ⊢
  have hrest : ∀ {env : Env} {st : St} (S : Stm) (q' : R) (cs : List PV), Sub env [(0, .ref 0 0), (2, .ref 1 0), (3, .ref 2 0)] → st = ⟨[rPV q', stZ, cs], []⟩ → Weaks cs (stC S) → stateM r = (S, q') → K0 env st := by
    rintro env st S q' cs hsub rfl hwk he
    refine hK0 _ _ (PW.less _ hsub ?_)
    clear hK0 K0
    refine PW.forget [(0, .ref 0 0), (2, .ref 1 0), (3, .ref 2 0)] ⟨[rPV q', stZ, stC S], []⟩ (by simp [Sub, eget]) ⟨?_, rfl, ?_⟩ rfl (Nat.le_refl _) (Nat.le_refl _) ?_
    · simp only [List.length_cons, List.length_nil, List.take_succ_cons, List.take_zero, boxes_cons, boxes_nil, and_true]
      exact ⟨Weaks.refl _, fun c hc => List.all_eq_true.1 (r_all q') c hc, Weaks.refl _, fun c hc => List.all_eq_true.1 (show stZ.all PV.isCell = true from rfl) c hc, hwk, fun c hc => List.all_eq_true.1 (st_all S) c hc⟩
    · intro c hc
      simp only [List.mem_cons, List.not_mem_nil, or_false] at hc
      rcases hc with rfl | rfl | rfl
      · exact PVs.clean_data (r_clean q')
      · rfl
      · exact st_clean _ _ S
    unfold stZ
    refine PW.go tab_ok [] fun K hK => ?_
    simp only [go_sem, ↓reduceIte, reduceCtorEq, Nat.reduceBEq, Nat.reduceAdd, Nat.reduceMul, Nat.reduceSub, Nat.reduceLT, Nat.reduceLeDiff, Nat.reduceEqDiff]
    (refine hK _ _ ?_; (try clear hK); (try clear K))
    exact PW.ret (OneM.fin (r' := (stateM r).2) (.inl rfl) (res_cell (x := stPV1 S) rfl rfl (by simp only [go_sem, ↓reduceIte, reduceCtorEq, Nat.reduceBEq, Nat.reduceAdd, Nat.reduceMul, Nat.reduceSub, Nat.reduceLT, Nat.reduceLeDiff, Nat.reduceEqDiff])) (by rw [he]) (by rw [he]; exact .refl _) (stPV1_clean 0 0 _))
  refine PW.block ?_
  refine PW.go tab_ok [] fun K hK => ?_
  simp only [go_sem, ↓reduceIte, reduceCtorEq, Nat.reduceBEq, Nat.reduceAdd, Nat.reduceMul, Nat.reduceSub, Nat.reduceLT, Nat.reduceLeDiff, Nat.reduceEqDiff]
  (refine hK _ _ ?_; (try clear hK); (try clear K))
  refine PW.cond_split (b := k == -1) rfl ?_ ?_ <;> intro hbm
  · have hk : k = -1 := by simpa using hbm
    rw [if_pos hk] at hz
    refine PW.goL tab_ok [] fun K hK => ?_
    simp only [go_sem, ↓reduceIte, reduceCtorEq, Nat.reduceBEq, Nat.reduceAdd, Nat.reduceMul, Nat.reduceSub, Nat.reduceLT, Nat.reduceLeDiff, Nat.reduceEqDiff]
    refine (fail_pc' h1 4).use 0 rfl (Weaks.refl _) rfl ?_; refine PO.go tab_ok [] ?_
    simp only [go_sem, ↓reduceIte, reduceCtorEq, Nat.reduceBEq, Nat.reduceAdd, Nat.reduceMul, Nat.reduceSub, Nat.reduceLT, Nat.reduceLeDiff, Nat.reduceEqDiff]
    (refine hK _ _ ?_; (try clear hK); (try clear K))
    exact hrest (stm0 0) (failM 4 q) _ (by simp [Sub, eget]) rfl (by (repeat (first | exact .nil | refine .cons (by first | exact .refl _ | exact Weak.nil _ _ _ | exact Weak.no _ _ _ | exact opt_weak _) ?_))) hz
  have hkm : ¬ k = -1 := by simpa using hbm
  rw [if_neg hkm] at hz
  refine PW.go tab_ok [] fun K hK => ?_
  simp only [go_sem, ↓reduceIte, reduceCtorEq, Nat.reduceBEq, Nat.reduceAdd, Nat.reduceMul, Nat.reduceSub, Nat.reduceLT, Nat.reduceLeDiff, Nat.reduceEqDiff]
  (refine hK _ _ ?_; (try clear hK); (try clear K))
  refine PW.cond_split (b := k == 0) rfl ?_ ?_ <;> intro hb0
  · have hk : k = 0 := by simpa using hb0
    rw [if_pos hk] at hz
    refine PW.go tab_ok [] fun K hK => ?_
    simp only [go_sem, ↓reduceIte, reduceCtorEq, Nat.reduceBEq, Nat.reduceAdd, Nat.reduceMul, Nat.reduceSub, Nat.reduceLT, Nat.reduceLeDiff, Nat.reduceEqDiff]
    (refine hK _ _ ?_; (try clear hK); (try clear K))
    refine PW.goL tab_ok [] fun K hK => ?_
    simp only [go_sem, ↓reduceIte, reduceCtorEq, Nat.reduceBEq, Nat.reduceAdd, Nat.reduceMul, Nat.reduceSub, Nat.reduceLT, Nat.reduceLeDiff, Nat.reduceEqDiff]
    refine (create_pc h1).use 0 2 (by decide) rfl rfl ?_
    refine PO.go tab_ok [] ?_
    simp only [go_sem, ↓reduceIte, reduceCtorEq, Nat.reduceBEq, Nat.reduceAdd, Nat.reduceMul, Nat.reduceSub, Nat.reduceLT, Nat.reduceLeDiff, Nat.reduceEqDiff]
    (refine hK _ _ ?_; (try clear hK); (try clear K))
    exact hrest (createM q).1 (createM q).2 _ (by simp [Sub, eget]) rfl (Weaks.refl _) hz
  have hk0 : ¬ k = 0 := by simpa using hb0
  rw [if_neg hk0] at hz
  refine PW.go tab_ok [] fun K hK => ?_
  simp only [go_sem, ↓reduceIte, reduceCtorEq, Nat.reduceBEq, Nat.reduceAdd, Nat.reduceMul, Nat.reduceSub, Nat.reduceLT, Nat.reduceLeDiff, Nat.reduceEqDiff]
  (refine hK _ _ ?_; (try clear hK); (try clear K))
  refine PW.cond_split (b := k == 1) rfl ?_ ?_ <;> intro hb1
  · have hk : k = 1 := by simpa using hb1
    rw [if_pos hk] at hz
    refine PW.go tab_ok [] fun K hK => ?_
    simp only [go_sem, ↓reduceIte, reduceCtorEq, Nat.reduceBEq, Nat.reduceAdd, Nat.reduceMul, Nat.reduceSub, Nat.reduceLT, Nat.reduceLeDiff, Nat.reduceEqDiff]
    (refine hK _ _ ?_; (try clear hK); (try clear K))
    refine PW.goL tab_ok [] fun K hK => ?_
    simp only [go_sem, ↓reduceIte, reduceCtorEq, Nat.reduceBEq, Nat.reduceAdd, Nat.reduceMul, Nat.reduceSub, Nat.reduceLT, Nat.reduceLeDiff, Nat.reduceEqDiff]
    refine (drop_pc h1).use 0 2 (by decide) rfl rfl ?_
    refine PO.go tab_ok [] ?_
    simp only [go_sem, ↓reduceIte, reduceCtorEq, Nat.reduceBEq, Nat.reduceAdd, Nat.reduceMul, Nat.reduceSub, Nat.reduceLT, Nat.reduceLeDiff, Nat.reduceEqDiff]
    (refine hK _ _ ?_; (try clear hK); (try clear K))
    exact hrest (dropM q).1 (dropM q).2 _ (by simp [Sub, eget]) rfl (Weaks.refl _) hz
  have hk1 : ¬ k = 1 := by simpa using hb1
  rw [if_neg hk1] at hz
  refine PW.go tab_ok [] fun K hK => ?_
  simp only [go_sem, ↓reduceIte, reduceCtorEq, Nat.reduceBEq, Nat.reduceAdd, Nat.reduceMul, Nat.reduceSub, Nat.reduceLT, Nat.reduceLeDiff, Nat.reduceEqDiff]
  (refine hK _ _ ?_; (try clear hK); (try clear K))
  refine PW.cond_split (b := k == 2) rfl ?_ ?_ <;> intro hb2
  · have hk : k = 2 := by simpa using hb2
    rw [if_pos hk] at hz
    refine PW.go tab_ok [] fun K hK => ?_
    simp only [go_sem, ↓reduceIte, reduceCtorEq, Nat.reduceBEq, Nat.reduceAdd, Nat.reduceMul, Nat.reduceSub, Nat.reduceLT, Nat.reduceLeDiff, Nat.reduceEqDiff]
    (refine hK _ _ ?_; (try clear hK); (try clear K))
    refine PW.goL tab_ok [] fun K hK => ?_
    simp only [go_sem, ↓reduceIte, reduceCtorEq, Nat.reduceBEq, Nat.reduceAdd, Nat.reduceMul, Nat.reduceSub, Nat.reduceLT, Nat.reduceLeDiff, Nat.reduceEqDiff]
    refine (insert_pc h1).use 0 2 (by decide) rfl rfl ?_
    refine PO.go tab_ok [] ?_
    simp only [go_sem, ↓reduceIte, reduceCtorEq, Nat.reduceBEq, Nat.reduceAdd, Nat.reduceMul, Nat.reduceSub, Nat.reduceLT, Nat.reduceLeDiff, Nat.reduceEqDiff]
    (refine hK _ _ ?_; (try clear hK); (try clear K))
    exact hrest (insertM q).1 (insertM q).2 _ (by simp [Sub, eget]) rfl (Weaks.refl _) hz
  have hk2 : ¬ k = 2 := by simpa using hb2
  rw [if_neg hk2] at hz
  refine PW.go tab_ok [] fun K hK => ?_
  simp only [go_sem, ↓reduceIte, reduceCtorEq, Nat.reduceBEq, Nat.reduceAdd, Nat.reduceMul, Nat.reduceSub, Nat.reduceLT, Nat.reduceLeDiff, Nat.reduceEqDiff]
  (refine hK _ _ ?_; (try clear hK); (try clear K))
  refine PW.cond_split (b := k == 3) rfl ?_ ?_ <;> intro hb3
  · have hk : k = 3 := by simpa using hb3
    rw [if_pos hk] at hz
    refine PW.go tab_ok [] fun K hK => ?_
    simp only [go_sem, ↓reduceIte, reduceCtorEq, Nat.reduceBEq, Nat.reduceAdd, Nat.reduceMul, Nat.reduceSub, Nat.reduceLT, Nat.reduceLeDiff, Nat.reduceEqDiff]
    (refine hK _ _ ?_; (try clear hK); (try clear K))
    refine PW.goL tab_ok [] fun K hK => ?_
    simp only [go_sem, ↓reduceIte, reduceCtorEq, Nat.reduceBEq, Nat.reduceAdd, Nat.reduceMul, Nat.reduceSub, Nat.reduceLT, Nat.reduceLeDiff, Nat.reduceEqDiff]
    refine (update_pc h1 hd1).use 0 2 (by decide) rfl rfl ?_
    refine PO.go tab_ok [] ?_
    simp only [go_sem, ↓reduceIte, reduceCtorEq, Nat.reduceBEq, Nat.reduceAdd, Nat.reduceMul, Nat.reduceSub, Nat.reduceLT, Nat.reduceLeDiff, Nat.reduceEqDiff]
    (refine hK _ _ ?_; (try clear hK); (try clear K))
    exact hrest (updateM q).1 (updateM q).2 _ (by simp [Sub, eget]) rfl (Weaks.refl _) hz
  have hk3 : ¬ k = 3 := by simpa using hb3
  rw [if_neg hk3] at hz
  refine PW.go tab_ok [] fun K hK => ?_
  simp only [go_sem, ↓reduceIte, reduceCtorEq, Nat.reduceBEq, Nat.reduceAdd, Nat.reduceMul, Nat.reduceSub, Nat.reduceLT, Nat.reduceLeDiff, Nat.reduceEqDiff]
  (refine hK _ _ ?_; (try clear hK); (try clear K))
  refine PW.cond_split (b := k == 4) rfl ?_ ?_ <;> intro hb4
  · have hk : k = 4 := by simpa using hb4
    rw [if_pos hk] at hz
    refine PW.go tab_ok [] fun K hK => ?_
    simp only [go_sem, ↓reduceIte, reduceCtorEq, Nat.reduceBEq, Nat.reduceAdd, Nat.reduceMul, Nat.reduceSub, Nat.reduceLT, Nat.reduceLeDiff, Nat.reduceEqDiff]
    (refine hK _ _ ?_; (try clear hK); (try clear K))
    refine PW.goL tab_ok [] fun K hK => ?_
    simp only [go_sem, ↓reduceIte, reduceCtorEq, Nat.reduceBEq, Nat.reduceAdd, Nat.reduceMul, Nat.reduceSub, Nat.reduceLT, Nat.reduceLeDiff, Nat.reduceEqDiff]
    refine (remove_pc h1 hd1).use 0 2 (by decide) rfl rfl ?_
    refine PO.go tab_ok [] ?_
    simp only [go_sem, ↓reduceIte, reduceCtorEq, Nat.reduceBEq, Nat.reduceAdd, Nat.reduceMul, Nat.reduceSub, Nat.reduceLT, Nat.reduceLeDiff, Nat.reduceEqDiff]
    (refine hK _ _ ?_; (try clear hK); (try clear K))
    exact hrest (removeM q).1 (removeM q).2 _ (by simp [Sub, eget]) rfl (Weaks.refl _) hz
  have hk4 : ¬ k = 4 := by simpa using hb4
  rw [if_neg hk4] at hz
  refine PW.go tab_ok [] fun K hK => ?_
  simp only [go_sem, ↓reduceIte, reduceCtorEq, Nat.reduceBEq, Nat.reduceAdd, Nat.reduceMul, Nat.reduceSub, Nat.reduceLT, Nat.reduceLeDiff, Nat.reduceEqDiff]
  (refine hK _ _ ?_; (try clear hK); (try clear K))
  refine PW.cond_split (b := k == 5) rfl ?_ ?_ <;> intro hb5
  · have hk : k = 5 := by simpa using hb5
    skip
    refine PW.go tab_ok [] fun K hK => ?_
    simp only [go_sem, ↓reduceIte, reduceCtorEq, Nat.reduceBEq, Nat.reduceAdd, Nat.reduceMul, Nat.reduceSub, Nat.reduceLT, Nat.reduceLeDiff, Nat.reduceEqDiff]
    (refine hK _ _ ?_; (try clear hK); (try clear K))
    refine PW.goL tab_ok [] fun K hK => ?_
    simp only [go_sem, ↓reduceIte, reduceCtorEq, Nat.reduceBEq, Nat.reduceAdd, Nat.reduceMul, Nat.reduceSub, Nat.reduceLT, Nat.reduceLeDiff, Nat.reduceEqDiff]
    refine (choose_pc h1 hd1).use 0 2 (by decide) rfl rfl ?_
    refine PO.go tab_ok [] ?_
    simp only [go_sem, ↓reduceIte, reduceCtorEq, Nat.reduceBEq, Nat.reduceAdd, Nat.reduceMul, Nat.reduceSub, Nat.reduceLT, Nat.reduceLeDiff, Nat.reduceEqDiff]
    (refine hK _ _ ?_; (try clear hK); (try clear K))
    exact hrest (chooseM q).1 (chooseM q).2 _ (by simp [Sub, eget]) rfl (Weaks.refl _) hz
  have hk5 : ¬ k = 5 := by simpa using hb5
  exact absurd hhi (by omega)

/-! ### A script -/
def scrL : Nat → List Stm → R → List Stm × R
  | 0, out, r => (out, r)
  | n + 1, out, r =>
    if (hasM [59] (stateM (if out.length = 8 then failM 2 r else r)).2).1 then scrL n (out ++ [(stateM (if out.length = 8 then failM 2 r else r)).1]) (hasM [59] (stateM (if out.length = 8 then failM 2 r else r)).2).2
    else (out ++ [(stateM (if out.length = 8 then failM 2 r else r)).1], (hasM [59] (stateM (if out.length = 8 then failM 2 r else r)).2).2)
theorem scrL_ok : ∀ (n : Nat) (out : List Stm) (r : R), r.ok → (scrL n out r).2.ok
  | 0, out, r, h => h
  | n + 1, out, r, h => by
    have h1 : (if out.length = 8 then failM 2 r else r).ok := by
      split
      · exact failM_ok h 2
      · exact h
    unfold scrL
    generalize (if out.length = 8 then failM 2 r else r) = q at h1 ⊢
    split
    · exact scrL_ok n _ _ (hasM_ok (stateM_ok h1))
    · exact hasM_ok (stateM_ok h1)
def scriptM (l : List Tok) (f : Ft) : List Stm × Ft :=
  if f.c ≠ 0 then ([], f)
  else if (endM (scrL 9 [] ⟨l, 0, 0, 0⟩).2).c ≠ 0 then ([], ⟨(endM (scrL 9 [] ⟨l, 0, 0, 0⟩).2).c, (endM (scrL 9 [] ⟨l, 0, 0, 0⟩).2).a⟩)
  else ((scrL 9 [] ⟨l, 0, 0, 0⟩).1, ⟨0, 0⟩)
def stmsPV (l : List Stm) : PV := .list 14 (l.map stPV1) .no
theorem stms_clean (l : List Stm) : PV.clean 0 0 (stmsPV l) = true := by simp [stmsPV, PV.clean, clean_map (stPV1_clean 0 0)]
theorem res_two {tt : TTab} {env : Env} {st : St} {a b : Nat} {t : TypeId} {v p x : PV} {y : TyI} (h0 : eget env a = some v) (h1 : eget env b = some p) (h2 : tt t = some y) (h3 : ldPV y st p = some x) : resAll tt env st [.tmp a, .cell b t] = some [v, x] := by
  simp [resAll, resOne, h0, h1, h2, h3]
set_option maxHeartbeats 1000000 in
theorem script_pc {s : Str} {l : List Tok} {f : Ft} (hlex : Pure Try.prog 9 [.str s] (.tup [toksPV l, ftPV f])) (hl : f.c = 0 → R.ok ⟨l, 0, 0, 0⟩) :
    Pure Try.prog 8 [.str s] (.tup [stmsPV (scriptM l f).1, ftPV (scriptM l f).2]) := by
  have hcl : PV.clean 0 0 (.tup [stmsPV (scriptM l f).1, ftPV (scriptM l f).2]) = true := by simp [PV.clean, PVs.clean, stms_clean]; rfl
  refine PC.intro tab_ok Try.func8 rfl (by kernel_rfl) Try.ntmps8 (Nat.le_of_ble_eq_true rfl) (rs := _) (congrArg Array.toList Try.results8) ?_
  (repeat (refine PW.go tab_ok [] fun K hK => ?_; simp only [go_sem, ↓reduceIte, reduceCtorEq, Nat.reduceBEq, Nat.reduceAdd, Nat.reduceMul, Nat.reduceSub, Nat.reduceLT, Nat.reduceLeDiff, Nat.reduceEqDiff]; (refine hK _ _ ?_; clear hK K)))
  refine PW.go tab_ok [] fun K hK => ?_
  simp only [go_sem, ↓reduceIte, reduceCtorEq, Nat.reduceBEq, Nat.reduceAdd, Nat.reduceMul, Nat.reduceSub, Nat.reduceLT, Nat.reduceLeDiff, Nat.reduceEqDiff]
  refine hlex.use (Weaks.refl _) rfl (by simp [PV.clean, PVs.clean, toks_clean]; rfl) ?_
  refine PO.go tab_ok [] ?_
  simp only [ftPV, go_sem, ↓reduceIte, reduceCtorEq, Nat.reduceBEq, Nat.reduceAdd, Nat.reduceMul, Nat.reduceSub, Nat.reduceLT, Nat.reduceLeDiff, Nat.reduceEqDiff]
  (refine hK _ _ ?_; (try clear hK); (try clear K))
  refine PW.seq_k fun K0 hK0 => ?_
  refine PW.go tab_ok [] fun K hK => ?_
  simp only [go_sem, ↓reduceIte, reduceCtorEq, Nat.reduceBEq, Nat.reduceAdd, Nat.reduceMul, Nat.reduceSub, Nat.reduceLT, Nat.reduceLeDiff, Nat.reduceEqDiff]
  (refine hK _ _ ?_; (try clear hK); (try clear K))
  refine PW.cond_split (b := f.c != 0) rfl ?_ ?_ <;> intro hb
  · have hc : f.c ≠ 0 := by simpa using hb
    refine PW.draws tab_ok mixed [] [(0, []), (1, []), (2, [])] (by kernel_rfl) fun K hK => ?_
    simp only [go_sem, ↓reduceIte, reduceCtorEq, Nat.reduceBEq, Nat.reduceAdd, Nat.reduceMul, Nat.reduceSub, Nat.reduceLT, Nat.reduceLeDiff, Nat.reduceEqDiff]
    (refine hK _ _ ?_; (try clear hK); (try clear K))
    refine PW.ret (Pure.finw (.inl rfl) rfl ?_ hcl)
    simp only [scriptM, if_pos hc, resPV]
    exact Weak.tup (.cons (Weak.nil _ _ _) (.cons (.refl _) .nil))
  have hc : f.c = 0 := by simpa using hb
  have hcn : ¬ f.c ≠ 0 := by simp [hc]
  refine PW.skip (hK0 _ _ ?_); clear hK0 K0
  have h := hl hc
  have hs0 : (scrL 9 [] ⟨l, 0, 0, 0⟩).2.ok := scrL_ok 9 [] _ h
  refine PW.go tab_ok [] fun K hK => ?_
  simp only [toksPV, go_sem, ↓reduceIte, reduceCtorEq, Nat.reduceBEq, Nat.reduceAdd, Nat.reduceMul, Nat.reduceSub, Nat.reduceLT, Nat.reduceLeDiff, Nat.reduceEqDiff]
  (refine hK _ _ ?_; (try clear hK); (try clear K))
  (repeat (refine PW.go tab_ok [] fun K hK => ?_; simp only [go_sem, ↓reduceIte, reduceCtorEq, Nat.reduceBEq, Nat.reduceAdd, Nat.reduceMul, Nat.reduceSub, Nat.reduceLT, Nat.reduceLeDiff, Nat.reduceEqDiff]; (refine hK _ _ ?_; clear hK K)))
  refine PW.adopt ?_
  refine PW.forget [(7, .list 14 ((([] : List Stm)).map stPV1) (.own 0)), (6, .ref 2 0), (5, .ref 1 0), (3, .ref 0 0)] ⟨[[.int .i64 0, .int .i64 0], [.int .i64 f.c, .int .i64 f.a], rPV ⟨l, 0, 0, 0⟩], [0]⟩ (by simp [Sub, eget, Weak.nil]) ⟨?_, rfl, ?_⟩ rfl (Nat.le_refl _) (Nat.le_refl _) ?_
  · simp [Weaks.refl, PV.isCell, rPV, rdPV, toksPV]
  · intro c hc
    simp only [List.mem_cons, List.not_mem_nil, or_false] at hc
    rcases hc with rfl | rfl | rfl
    · rfl
    · rfl
    · exact PVs.clean_data (r_clean _)
  refine PW.seq_k fun K0 hK0 => ?_
  have hrest : ∀ {env : Env} {st : St} (z : List Stm × R), Sub env [(7, .list 14 (z.1.map stPV1) (.own 0)), (6, .ref 2 0), (5, .ref 1 0), (3, .ref 0 0)] → st = ⟨[[.int .i64 0, .int .i64 0], [.int .i64 f.c, .int .i64 f.a], rPV z.2], [z.1.length]⟩ → scrL 9 [] ⟨l, 0, 0, 0⟩ = z → K0 env st := by
    rintro env st z hsub rfl he
    refine hK0 _ _ (PW.less _ hsub ?_)
    clear hK0 K0
    rw [he] at hs0
    refine PW.seq_k fun K0 hK0 => ?_
    refine PW.go tab_ok [] fun K hK => ?_
    simp only [go_sem, ↓reduceIte, reduceCtorEq, Nat.reduceBEq, Nat.reduceAdd, Nat.reduceMul, Nat.reduceSub, Nat.reduceLT, Nat.reduceLeDiff, Nat.reduceEqDiff]
    refine (end_pc hs0).use 2 rfl (Weaks.refl _) rfl ?_
    refine PO.go tab_ok [] ?_
    simp only [go_sem, ↓reduceIte, reduceCtorEq, Nat.reduceBEq, Nat.reduceAdd, Nat.reduceMul, Nat.reduceSub, Nat.reduceLT, Nat.reduceLeDiff, Nat.reduceEqDiff]
    (refine hK _ _ ?_; (try clear hK); (try clear K))
    refine PW.go tab_ok [] fun K hK => ?_
    simp only [go_sem, ↓reduceIte, reduceCtorEq, Nat.reduceBEq, Nat.reduceAdd, Nat.reduceMul, Nat.reduceSub, Nat.reduceLT, Nat.reduceLeDiff, Nat.reduceEqDiff]
    (refine hK _ _ ?_; (try clear hK); (try clear K))
    refine PW.cond_split (b := (endM z.2).c != 0) rfl ?_ ?_ <;> intro hb2
    · have hc2 : (endM z.2).c ≠ 0 := by simpa using hb2
      refine PW.draws tab_ok mixed [] [(0, []), (1, []), (2, [])] (by kernel_rfl) fun K hK => ?_
      simp only [go_sem, ↓reduceIte, reduceCtorEq, Nat.reduceBEq, Nat.reduceAdd, Nat.reduceMul, Nat.reduceSub, Nat.reduceLT, Nat.reduceLeDiff, Nat.reduceEqDiff]
      (refine hK _ _ ?_; (try clear hK); (try clear K))
      refine PW.ret (Pure.finw (.inl rfl) rfl ?_ hcl)
      simp only [scriptM, if_neg hcn, he, if_pos hc2, resPV]
      exact Weak.tup (.cons (Weak.nil _ _ _) (.cons (.refl _) .nil))
    have hc2 : ¬ (endM z.2).c ≠ 0 := by simpa using hb2
    refine PW.skip (hK0 _ _ ?_); clear hK0 K0
    (repeat (refine PW.go tab_ok [] fun K hK => ?_; simp only [go_sem, ↓reduceIte, reduceCtorEq, Nat.reduceBEq, Nat.reduceAdd, Nat.reduceMul, Nat.reduceSub, Nat.reduceLT, Nat.reduceLeDiff, Nat.reduceEqDiff]; (refine hK _ _ ?_; clear hK K)))
    refine PW.ret (Pure.finw (.inl rfl) rfl ?_ hcl)
    simp only [scriptM, if_neg hcn, he, if_neg hc2, resPV]
    exact Weak.tup (.cons (Weak.no _ _ _) (.cons (.refl _) .nil))
  have hgood : ∀ (q : R) (n : Nat), StOk ⟨[[.int .i64 0, .int .i64 0], [.int .i64 f.c, .int .i64 f.a], rPV q], [n]⟩ := by
    intro q n
    refine StOk.mk' fun c hc => ?_
    simp only [List.mem_cons, List.not_mem_nil, or_false] at hc
    rcases hc with rfl | rfl | rfl
    · exact ⟨rfl, rfl⟩
    · exact ⟨rfl, rfl⟩
    · exact ⟨r_all q, PVs.clean_data (r_clean q)⟩
  refine PW.go tab_ok [] fun K hK => ?_
  simp only [go_sem, ↓reduceIte, reduceCtorEq, Nat.reduceBEq, Nat.reduceAdd, Nat.reduceMul, Nat.reduceSub, Nat.reduceLT, Nat.reduceLeDiff, Nat.reduceEqDiff]
  (refine hK _ _ ?_; (try clear hK); (try clear K))
  refine PW.block (PW.loop (α := Bool × Nat × List Stm × R) (fun a => [(8, .bool a.1), (7, .list 14 (a.2.2.1.map stPV1) (.own 0)), (6, .ref 2 0), (5, .ref 1 0), (3, .ref 0 0)]) (fun a => ⟨[[.int .i64 0, .int .i64 0], [.int .i64 f.c, .int .i64 f.a], rPV a.2.2.2], [a.2.2.1.length]⟩)
    (fun a => a.2.2.2.ok ∧ a.2.2.2.d = 0 ∧ a.2.1 + a.2.2.1.length = 9 ∧ (a.1 = true → a.2.2.1.length ≤ 8 ∧ scrL a.2.1 a.2.2.1 a.2.2.2 = scrL 9 [] ⟨l, 0, 0, 0⟩) ∧ (a.1 = false → scrL 9 [] ⟨l, 0, 0, 0⟩ = a.2.2)) (fun a => a.2.1) (true, 9, [], ⟨l, 0, 0, 0⟩)
    ⟨h, rfl, rfl, fun _ => ⟨by simp, rfl⟩, fun e => by cases e⟩ ?_ rfl (fun _ _ => ⟨rfl, rfl⟩) ?_)
  · simp [Sub, eget]
  rintro ⟨more, n, out, q⟩ ⟨hq, hqd, hn, hyes, hno⟩
  simp only at hq hqd hn hyes hno
  refine PW.seq_k fun K1 hK1 => ?_
  refine PW.go tab_ok [] fun K hK => ?_
  simp only [go_sem, ↓reduceIte, reduceCtorEq, Nat.reduceBEq, Nat.reduceAdd, Nat.reduceMul, Nat.reduceSub, Nat.reduceLT, Nat.reduceLeDiff, Nat.reduceEqDiff]
  (refine hK _ _ ?_; (try clear hK); (try clear K))
  refine PW.cond_split (b := more) rfl ?_ ?_ <;> intro hb
  rotate_left
  · exact PW.exit (hrest (out, q) (by simp [Sub, eget]) rfl (hno hb))
  obtain ⟨hlen, he⟩ := hyes hb
  clear hyes hno
  subst hb
  obtain ⟨m, rfl⟩ : ∃ m, n = m + 1 := ⟨n - 1, by omega⟩
  unfold scrL at he
  refine PW.skip (hK1 _ _ ?_)
  clear hK1
  refine PW.seq_k fun K2 hK2 => PW.block ?_
  refine PW.seq_k fun K0 hK0 => ?_
  refine PW.go tab_ok [] fun K hK => ?_
  simp only [go_sem, ↓reduceIte, reduceCtorEq, Nat.reduceBEq, Nat.reduceAdd, Nat.reduceMul, Nat.reduceSub, Nat.reduceLT, Nat.reduceLeDiff, Nat.reduceEqDiff]
  (refine hK _ _ ?_; (try clear hK); (try clear K))
  have hgo : ∀ {env : Env} {st : St} (q' : R), Sub env [(7, .list 14 (out.map stPV1) (.own 0)), (6, .ref 2 0), (5, .ref 1 0), (3, .ref 0 0)] → st = ⟨[[.int .i64 0, .int .i64 0], [.int .i64 f.c, .int .i64 f.a], rPV q'], [out.length]⟩ → q'.ok → q'.d = 0 →
      (if (hasM [59] (stateM q').2).1 then scrL m (out ++ [(stateM q').1]) (hasM [59] (stateM q').2).2 else (out ++ [(stateM q').1], (hasM [59] (stateM q').2).2)) = scrL 9 [] ⟨l, 0, 0, 0⟩ → (out.length = 8 → q'.c ≠ 0) → K0 env st := by
    rintro env st q' hsub rfl hok hd he hbad
    refine hK0 _ _ (PW.less _ hsub ?_)
    clear hK0 K0
    have hfit : (out.length + 1) * 264 ≤ 140737488355328 := by omega
    have hmax : out.length + 1 ≤ maxLen := by unfold maxLen; omega
    refine PW.goL tab_ok [] fun K hK => ?_
    simp only [go_sem, ↓reduceIte, reduceCtorEq, Nat.reduceBEq, Nat.reduceAdd, Nat.reduceMul, Nat.reduceSub, Nat.reduceLT, Nat.reduceLeDiff, Nat.reduceEqDiff]
    refine (state_pc hok hd).use 2 rfl (Weaks.refl _) rfl ?_
    refine PO.go tab_ok [] ?_
    simp only [hfit, hmax, go_sem, ↓reduceIte, reduceCtorEq, Nat.reduceBEq, Nat.reduceAdd, Nat.reduceMul, Nat.reduceSub, Nat.reduceLT, Nat.reduceLeDiff, Nat.reduceEqDiff]
    (refine hK _ _ ?_; (try clear hK); (try clear K))
    refine hK2 _ _ ?_
    clear hK2
    have h1 := stateM_ok hok
    have hd1 : (stateM q').2.d = 0 := by rw [stateM_d, hd]
    have hb1 : q'.c ≠ 0 → (stateM q').2.c ≠ 0 := fun hb => by rw [stateM_bad hb]; exact hb
    generalize stateM q' = z at h1 hd1 hb1 he ⊢
    refine PW.goL tab_ok [] fun K hK => ?_
    simp only [go_sem, ↓reduceIte, reduceCtorEq, Nat.reduceBEq, Nat.reduceAdd, Nat.reduceMul, Nat.reduceSub, Nat.reduceLT, Nat.reduceLeDiff, Nat.reduceEqDiff]
    refine (has_pc (s := [59]) h1).use 2 rfl (Weaks.refl _) rfl ?_
    refine PO.go tab_ok [] ?_
    simp only [go_sem, ↓reduceIte, reduceCtorEq, Nat.reduceBEq, Nat.reduceAdd, Nat.reduceMul, Nat.reduceSub, Nat.reduceLT, Nat.reduceLeDiff, Nat.reduceEqDiff]
    (refine hK _ _ ?_; (try clear hK); (try clear K))
    refine ⟨((hasM [59] z.2).1, m, out ++ [z.1], (hasM [59] z.2).2), ⟨hasM_ok h1, by rw [hasM_d, hd1], by simp; omega, ?_, ?_⟩, by simp, by simp [Sub, eget], ?_, by simp [Env.clean, PV.clean]; rw [PVs.clean_append, clean_map (stPV1_clean 3 1)]; simp [PVs.clean, stPV1_clean]⟩
    · intro hy
      simp only at hy
      rw [if_pos hy] at he
      refine ⟨?_, he⟩
      simp only [List.length_append, List.length_cons, List.length_nil]
      by_cases h8 : out.length = 8
      · rw [hasM_bad (hb1 (hbad h8))] at hy
        cases hy
      · omega
    · intro hy
      simp only at hy
      rw [if_neg (by simp [hy])] at he
      exact he.symm
    · simpa using (hgood (hasM [59] z.2).2 (out.length + 1)).left
  refine PW.cond_split (b := (out.length : Int) == 8) rfl ?_ ?_ <;> intro hb
  · have h8 : out.length = 8 := by have : (out.length : Int) = 8 := by simpa using hb
                                   omega
    rw [if_pos h8] at he
    refine PW.goL tab_ok [] fun K hK => ?_
    simp only [go_sem, ↓reduceIte, reduceCtorEq, Nat.reduceBEq, Nat.reduceAdd, Nat.reduceMul, Nat.reduceSub, Nat.reduceLT, Nat.reduceLeDiff, Nat.reduceEqDiff]
    refine (fail_pc' hq 2).use 2 rfl (Weaks.refl _) rfl ?_
    refine PO.go tab_ok [] ?_
    simp only [go_sem, ↓reduceIte, reduceCtorEq, Nat.reduceBEq, Nat.reduceAdd, Nat.reduceMul, Nat.reduceSub, Nat.reduceLT, Nat.reduceLeDiff, Nat.reduceEqDiff]
    (refine hK _ _ ?_; (try clear hK); (try clear K))
    exact hgo (failM 2 q) (by simp [Sub, eget]) rfl (failM_ok hq 2) (by rw [failM_d, hqd]) he fun _ => failM_c 2 q (by decide)
  · have h8 : ¬ out.length = 8 := by have : ¬ (out.length : Int) = 8 := by simpa using hb
                                     omega
    rw [if_neg h8] at he
    exact PW.skip (hgo q (by simp [Sub, eget]) rfl hq hqd he fun h => absurd h h8)
def scriptS (s : Str) : List Stm × Ft := scriptM (lexM s).1 (lexM s).2
theorem Script_pc (s : Str) : Pure Try.prog 8 [.str s] (.tup [stmsPV (scriptS s).1, ftPV (scriptS s).2]) := script_pc (lex_pc s) lexM_ok
end Go.Proofs.Ytolhbjfaahcekaa
end
section
/- Plain: two readers side by side: the same tokens up to a place, where one is at the end and the other has more. -/
set_option linter.unusedVariables false
set_option linter.unusedSimpArgs false
namespace Go.Proofs.Ytolhbjfaahcekaa

/-- Tokens that say the same. -/
def Tok.eqv (t u : Tok) : Prop := u.kind = t.kind ∧ u.text = t.text ∧ u.num = t.num
/-- The same tokens, and the end; there the other has Z. -/
inductive Ext (Z : List Tok) : List Tok → List Tok → Prop
  | last (E : Tok) (h : E.kind = 6) : Ext Z [E] Z
  | cons (t u : Tok) (l m : List Tok) (hk : t.kind ≠ 6) (he : t.eqv u) (h : Ext Z l m) : Ext Z (t :: l) (u :: m)
/-- What stands in the end's place. -/
structure Zok (Z : List Tok) : Prop where
  ne : Z ≠ []
  kind : (Z.headD tok0).kind = 5 ∨ (Z.headD tok0).kind = 6
  last : ∃ l e, Z = l ++ [e] ∧ e.kind = 6
/-- A row of words that it is none of. -/
def Zno (Z : List Tok) (ls : List Str) : Prop := (Z.headD tok0).kind = 6 ∨ (Z.headD tok0).text ∉ ls

/-- How two readers stand: d: the depth; D: how much deeper the other is. -/
structure Sim (Z : List Tok) (D d : Int) (r q : R) : Prop where
  ext : Ext Z r.ts q.ts
  d1 : r.d = d
  d2 : q.d = d + D
  c1 : r.c = 0
  c2 : q.c = 0

theorem idxF_not {ls : List Str} {x : Str} (h : x ∉ ls) : idxF ls x = -1 :=
  idx_nil fun j l e he => h (by rw [← he]; exact List.mem_of_getElem? e)

section
variable {Z : List Tok} {D d : Int}
theorem Sim.hd_cases {r q : R} (hz : Zok Z) (h : Sim Z D d r q) : ((hd r).kind ≠ 6 ∧ (hd r).eqv (hd q) ∧ Sim Z D d r.tail q.tail) ∨ ((hd r).kind = 6 ∧ hd q = Z.headD tok0 ∧ r.ts.tail = [] ∧ q.ts = Z) := by
  obtain ⟨he, h1, h2, h3, h4⟩ := h
  obtain ⟨ts, d0, c0, a0⟩ := r
  obtain ⟨us, d', c', a'⟩ := q
  simp only at he
  cases he with
  | last E hE =>
    right
    refine ⟨hE, ?_, rfl, rfl⟩
    cases Z with
    | nil => exact absurd rfl hz.ne
    | cons => rfl
  | cons t u l m hk he h => exact .inl ⟨hk, he, h, h1, h2, h3, h4⟩
theorem Ext.ok1 {Z l m : List Tok} (h : Ext Z l m) : ∃ k e, l = k ++ [e] ∧ e.kind = 6 := by
  induction h with
  | last E h => exact ⟨[], E, rfl, h⟩
  | cons t u l m hk he h ih =>
    obtain ⟨k, e, rfl, h6⟩ := ih
    exact ⟨t :: k, e, rfl, h6⟩
theorem Ext.ok2 {Z l m : List Tok} (hz : Zok Z) (h : Ext Z l m) : ∃ k e, m = k ++ [e] ∧ e.kind = 6 := by
  induction h with
  | last E h => exact hz.last
  | cons t u l m hk he h ih =>
    obtain ⟨k, e, rfl, h6⟩ := ih
    exact ⟨u :: k, e, rfl, h6⟩
theorem Sim.ok1 {r q : R} (h : Sim Z D d r q) : r.ok := h.ext.ok1
theorem Sim.ok2 {r q : R} (hz : Zok Z) (h : Sim Z D d r q) : q.ok := h.ext.ok2 hz
theorem isM_sim (hz : Zok Z) {ls : List Str} (hn : Zno Z ls) {r q : R} (h : Sim Z D d r q) : isM ls q = isM ls r := by
  rcases h.hd_cases hz with ⟨h1, h2, _⟩ | ⟨h1, h2, _⟩
  · simp only [isM, h.c1, h.c2, h2.1, h2.2.1]
  · have e1 : isM ls r = -1 := by simp [isM, h1]
    rw [e1]
    unfold isM
    split
    · rename_i hc
      rw [h2] at hc ⊢
      rcases hn with hn | hn
      · rw [hn] at hc; omega
      · exact idxF_not hn
    · rfl
theorem isM_nonneg_kind {ls : List Str} {r : R} (h : 0 ≤ isM ls r) : (hd r).kind = 2 ∨ (hd r).kind = 5 := by
  unfold isM at h
  split at h
  · rename_i hc; exact hc.2
  · omega
theorem passM_sim (hz : Zok Z) {ls : List Str} (hn : Zno Z ls) {r q : R} (h : Sim Z D d r q) : (passM ls q).1 = (passM ls r).1 ∧ Sim Z D d (passM ls r).2 (passM ls q).2 := by
  have e := isM_sim hz hn h
  refine ⟨e, ?_⟩
  simp only [passM, e]
  split
  · rename_i hp
    rcases h.hd_cases hz with ⟨_, _, h3⟩ | ⟨h1, _⟩
    · exact h3
    · have := isM_nonneg_kind hp
      rw [h1] at this
      omega
  · exact h
theorem hasM_sim (hz : Zok Z) {s : Str} (hn : Zno Z [s]) {r q : R} (h : Sim Z D d r q) : (hasM s q).1 = (hasM s r).1 ∧ Sim Z D d (hasM s r).2 (hasM s q).2 := by
  obtain ⟨e, h2⟩ := passM_sim hz hn h
  exact ⟨by simp only [hasM, e], h2⟩
/-- Where the first passes a word, the other does. -/
theorem hasM_sim_yes (hz : Zok Z) {s : Str} {r q : R} (h : Sim Z D d r q) (hy : (hasM s r).1 = true) : (hasM s q).1 = true ∧ Sim Z D d (hasM s r).2 (hasM s q).2 := by
  have hp : 0 ≤ isM [s] r := of_decide_eq_true hy
  rcases h.hd_cases hz with ⟨h1, h2, h3⟩ | ⟨h1, _⟩
  · have e : isM [s] q = isM [s] r := by simp only [isM, h.c1, h.c2, h2.1, h2.2.1]
    simp only [hasM, passM, e, if_pos hp]
    exact ⟨decide_eq_true hp, h3⟩
  · have := isM_nonneg_kind hp
    rw [h1] at this
    omega

/-! ### Readings side by side -/
/-- f and g: the first is at fault behind, or the other is too deep, or both give the same and stand alike. -/
structure Gd {α : Type} (Z : List Tok) (D d : Int) (f g : R → α × R) : Prop where
  sim : ∀ r q, Sim Z D d r q → (f r).2.c ≠ 0 ∨ (D ≠ 0 ∧ (g q).2.c = 10) ∨ ((g q).1 = (f r).1 ∧ Sim Z D d (f r).2 (g q).2)
  st1 : ∀ r, r.c ≠ 0 → (f r).2.c = r.c
  st2 : ∀ r, r.c ≠ 0 → (g r).2.c = r.c
def retM {α : Type} (a : α) : R → α × R := fun r => (a, r)
def bndM {α β : Type} (f : R → α × R) (g : α → R → β × R) : R → β × R := fun r => g (f r).1 (f r).2
def must' (ls : List Str) : R → Unit × R := fun r => ((), mustM ls r)
def fail' (e : Int) : R → Unit × R := fun r => ((), failM e r)
theorem ite_app {α β : Type} {c : Prop} [Decidable c] (f g : α → β) (x : α) : (if c then f else g) x = if c then f x else g x := by split <;> rfl
theorem Gd.ret {α : Type} (a : α) : Gd Z D d (retM a) (retM a) := ⟨fun r q h => .inr (.inr ⟨rfl, h⟩), fun _ _ => rfl, fun _ _ => rfl⟩
theorem Gd.bnd {α β : Type} {f g : R → α × R} {f' g' : α → R → β × R} (h : Gd Z D d f g) (h' : ∀ a, Gd Z D d (f' a) (g' a)) : Gd Z D d (bndM f f') (bndM g g') := by
  refine ⟨fun r q hs => ?_, fun r hc => ?_, fun r hc => ?_⟩
  · rcases h.sim r q hs with h1 | h1 | ⟨h1, h2⟩
    · left
      show (f' (f r).1 (f r).2).2.c ≠ 0
      rw [(h' _).st1 _ h1]
      exact h1
    · right; left
      show D ≠ 0 ∧ (g' (g q).1 (g q).2).2.c = 10
      rw [(h' _).st2 _ (by rw [h1.2]; decide)]
      exact h1
    · show (f' (f r).1 (f r).2).2.c ≠ 0 ∨ (D ≠ 0 ∧ (g' (g q).1 (g q).2).2.c = 10) ∨ ((g' (g q).1 (g q).2).1 = (f' (f r).1 (f r).2).1 ∧ Sim Z D d (f' (f r).1 (f r).2).2 (g' (g q).1 (g q).2).2)
      rw [h1]
      exact (h' _).sim _ _ h2
  · show (f' (f r).1 (f r).2).2.c = r.c
    have h1 := h.st1 r hc
    rw [(h' _).st1 _ (by rw [h1]; exact hc), h1]
  · show (g' (g r).1 (g r).2).2.c = r.c
    have h1 := h.st2 r hc
    rw [(h' _).st2 _ (by rw [h1]; exact hc), h1]
theorem Gd.ite {α : Type} {c : Prop} [Decidable c] {f g f' g' : R → α × R} (h : Gd Z D d f g) (h' : Gd Z D d f' g') : Gd Z D d (if c then f else f') (if c then g else g') := by
  split
  · exact h
  · exact h'
theorem Gd.of_eq {α : Type} {f g f' g' : R → α × R} (h : Gd Z D d f g) (e1 : ∀ r, f' r = f r) (e2 : ∀ r, g' r = g r) : Gd Z D d f' g' := by
  rw [funext e1, funext e2]; exact h
theorem Gd.fail (e : Int) (he : e ≠ 0) : Gd Z D d (fail' e) (fail' e) :=
  ⟨fun r q h => .inl (failM_c e r he), fun r hc => by show (failM e r).c = r.c; rw [failM_bad hc], fun r hc => by show (failM e r).c = r.c; rw [failM_bad hc]⟩
theorem Gd.pass (hz : Zok Z) {ls : List Str} (hn : Zno Z ls) : Gd Z D d (passM ls) (passM ls) :=
  ⟨fun r q h => .inr (.inr (passM_sim hz hn h)), fun r hc => by rw [passM_bad hc], fun r hc => by rw [passM_bad hc]⟩
theorem Gd.has (hz : Zok Z) {s : Str} (hn : Zno Z [s]) : Gd Z D d (hasM s) (hasM s) :=
  ⟨fun r q h => .inr (.inr (hasM_sim hz hn h)), fun r hc => by rw [hasM_bad hc], fun r hc => by rw [hasM_bad hc]⟩
theorem must_sim (hz : Zok Z) : ∀ (ls : List Str) (r q : R), Sim Z D d r q → (mustM ls r).c ≠ 0 ∨ Sim Z D d (mustM ls r) (mustM ls q)
  | [], r, q, h => .inr h
  | l :: ls, r, q, h => by
    cases hy : (hasM l r).1 with
    | true =>
      obtain ⟨h1, h2⟩ := hasM_sim_yes hz h hy
      simp only [mustM, hy, h1, if_true]
      exact must_sim hz ls _ _ h2
    | false =>
      left
      simp only [mustM, hy, Bool.false_eq_true, if_false]
      have h1 := failM_c 4 (hasM l r).2 (by decide)
      rw [mustM_bad h1]
      exact h1
theorem Gd.must (hz : Zok Z) (ls : List Str) : Gd Z D d (must' ls) (must' ls) :=
  ⟨fun r q h => (must_sim hz ls r q h).elim .inl fun h => .inr (.inr ⟨rfl, h⟩), fun r hc => by show (mustM ls r).c = r.c; rw [mustM_bad hc], fun r hc => by show (mustM ls r).c = r.c; rw [mustM_bad hc]⟩
def takeN (k : Int) : R → (Str × Int) × R := fun r => (((takeM k r).1.text, (takeM k r).1.num), (takeM k r).2)
theorem Gd.take (hz : Zok Z) {k : Int} (hk : k ≠ 6) : Gd Z D d (takeN k) (takeN k) := by
  refine ⟨fun r q h => ?_, fun r hc => by simp [takeN, takeM_bad hc], fun r hc => by simp [takeN, takeM_bad hc]⟩
  by_cases hh : (hd r).kind = k
  · rcases h.hd_cases hz with ⟨h1, h2, h3⟩ | ⟨h1, _⟩
    · right; right
      have e1 : takeM k r = (hd r, r.tail) := by simp [takeM, h.c1, hh]
      have e2 : takeM k q = (hd q, q.tail) := by simp [takeM, h.c2, h2.1, hh]
      simp only [takeN, e1, e2, h2.2.1, h2.2.2]
      exact ⟨trivial, h3⟩
    · exact absurd (hh.symm.trans h1) hk
  · left
    have e1 : takeM k r = (tok0, failM 4 r) := by simp [takeM, hh]
    simp only [takeN, e1]
    exact failM_c 4 r (by decide)
theorem Gd.name (hz : Zok Z) : Gd Z D d nameM nameM :=
  ((Gd.take hz (k := 1) (by decide)).bnd fun a => Gd.ret a.1).of_eq (fun _ => rfl) (fun _ => rfl)
theorem nxt_sim (hz : Zok Z) {r q : R} (h : Sim Z D d r q) (h6 : (hd r).kind ≠ 6) : ((nxt r).kind ≠ 6 ∧ (nxt r).eqv (nxt q) ∧ Sim Z D d r.tail.tail q.tail.tail) ∨ ((nxt r).kind = 6 ∧ nxt q = Z.headD tok0) := by
  rcases h.hd_cases hz with ⟨_, _, h3⟩ | ⟨h1, _⟩
  · have e : ∀ p : R, nxt p = p.tail.ts.headD tok0 := fun _ => rfl
    have e' : ∀ p : R, p.tail.ts ≠ [] → hd p.tail = p.tail.ts.headD tok0 := fun p hp => by
      unfold hd
      cases h : p.tail.ts with
      | nil => exact absurd h hp
      | cons => rfl
    have hne : r.tail.ts ≠ [] ∧ q.tail.ts ≠ [] := by
      have := h3.ext
      generalize r.tail.ts = a at this
      generalize q.tail.ts = b at this
      cases this with
      | last E hE => exact ⟨by simp, hz.ne⟩
      | cons => exact ⟨by simp, by simp⟩
    have e1 := e' r hne.1
    have e2 := e' q hne.2
    rw [e r, e q, ← e1, ← e2]
    rcases h3.hd_cases hz with h4 | ⟨h4, h5, _⟩
    · exact .inl h4
    · exact .inr ⟨h4, h5⟩
  · exact absurd h1 h6
theorem Gd.lit (hz : Zok Z) (h1 : Zno Z [[45]]) (h2 : Zno Z [sNULL]) : Gd Z D d litM litM := by
  refine ⟨fun r q h => ?_, fun r hc => by rw [litM_bad hc], fun r hc => by rw [litM_bad hc]⟩
  right; right
  have hm := isM_sim hz h1 h
  obtain ⟨g1, g2⟩ := hasM_sim hz h2 h
  have hc1 : ¬ r.c ≠ 0 := by simp [h.c1]
  have hc2 : ¬ q.c ≠ 0 := by simp [h.c2]
  unfold litM
  rw [if_neg hc1, if_neg hc2]
  rcases h.hd_cases hz with ⟨k1, k2, k3⟩ | ⟨k1, k2, _⟩
  · rw [k2.1, k2.2.1, k2.2.2]
    by_cases e3 : (hd r).kind = 3
    · rw [if_pos e3, if_pos e3]; exact ⟨rfl, k3⟩
    rw [if_neg e3, if_neg e3]
    by_cases e4 : (hd r).kind = 4
    · rw [if_pos e4, if_pos e4]; exact ⟨rfl, k3⟩
    rw [if_neg e4, if_neg e4, hm]
    by_cases e5 : isM [[45]] r < 0
    · rw [if_pos (.inl e5), if_pos (.inl e5)]; exact ⟨by rw [g1], g2⟩
    rcases nxt_sim hz h k1 with ⟨n1, n2, n3⟩ | ⟨n1, n2⟩
    · rw [n2.1, n2.2.2]
      by_cases e6 : (nxt r).kind = 3
      · have hn : ¬ (isM [[45]] r < 0 ∨ (nxt r).kind ≠ 3) := by rintro (h | h); exact e5 h; exact h e6
        rw [if_neg hn, if_neg hn]; exact ⟨rfl, n3⟩
      · rw [if_pos (.inr e6), if_pos (.inr e6)]; exact ⟨by rw [g1], g2⟩
    · rw [if_pos (.inr (by rw [n2]; rcases hz.kind with hk | hk <;> rw [hk] <;> decide)), if_pos (.inr (by rw [n1]; decide))]
      exact ⟨by rw [g1], g2⟩
  · have e1 : isM [[45]] r = -1 := by simp [isM, k1]
    have z3 : (hd q).kind ≠ 3 ∧ (hd q).kind ≠ 4 := by rw [k2]; rcases hz.kind with hk | hk <;> rw [hk] <;> decide
    rw [hm, if_neg z3.1, if_neg z3.2, if_pos (.inl (by rw [e1]; decide)), if_neg (by rw [k1]; decide), if_neg (by rw [k1]; decide), if_pos (.inl (by rw [e1]; decide))]
    exact ⟨by rw [g1], g2⟩
end
end Go.Proofs.Ytolhbjfaahcekaa
end
section
/- Plain: two readers side by side: expressions. -/
set_option linter.unusedVariables false
set_option linter.unusedSimpArgs false
namespace Go.Proofs.Ytolhbjfaahcekaa

/-- At the end's place: the end, a ) or a ;. -/
structure Zt (Z : List Tok) : Prop extends Zok Z where
  text : (Z.headD tok0).kind = 6 ∨ (Z.headD tok0).text = [41] ∨ (Z.headD tok0).text = [59]
theorem Zt.no {Z : List Tok} (h : Zt Z) {ls : List Str} (hd : decide ([41] ∉ ls ∧ [59] ∉ ls) = true) : Zno Z ls := by
  have hd' := of_decide_eq_true hd
  rcases h.text with h | h | h
  · exact .inl h
  · exact .inr (by rw [h]; exact hd'.1)
  · exact .inr (by rw [h]; exact hd'.2)

section
variable {Z : List Tok} {D d : Int}
theorem rowL_st {m : R → Ex × R} (h : ∀ r : R, r.c ≠ 0 → (m r).2.c = r.c) (first : Int) (ops : List Str) : ∀ (n : Nat) (e : Ex) (r : R), r.c ≠ 0 → (rowL m first ops n e r).2.c = r.c
  | 0, e, r, _ => rfl
  | n + 1, e, r, hc => by simp only [rowL, passM_bad hc]; rfl
theorem rowL_sim (hz : Zok Z) {m m' : R → Ex × R} (h : Gd Z D d m m') (hs : Sh m) (hs' : Sh m') (first : Int) {ops : List Str} (hn : Zno Z ops) : ∀ (n n' : Nat) (e : Ex) (r q : R), Sim Z D d r q → r.ts.length ≤ n → q.ts.length ≤ n' →
    (rowL m first ops n e r).2.c ≠ 0 ∨ (D ≠ 0 ∧ (rowL m' first ops n' e q).2.c = 10) ∨ ((rowL m' first ops n' e q).1 = (rowL m first ops n e r).1 ∧ Sim Z D d (rowL m first ops n e r).2 (rowL m' first ops n' e q).2)
  | 0, n', e, r, q, hsim, hl, hl' => by have := hsim.ok1.pos; omega
  | n + 1, 0, e, r, q, hsim, hl, hl' => by have := (hsim.ok2 hz).pos; omega
  | n + 1, n' + 1, e, r, q, hsim, hl, hl' => by
    obtain ⟨h1, h2⟩ := passM_sim hz hn hsim
    unfold rowL
    rw [h1]
    by_cases hk : (passM ops r).1 < 0
    · rw [if_pos hk, if_pos hk]
      exact .inr (.inr ⟨rfl, h2⟩)
    · rw [if_neg hk, if_neg hk]
      have hk0 : 0 ≤ (passM ops r).1 := by omega
      have hk1 : 0 ≤ (passM ops q).1 := by omega
      have l1 := passM_lt hsim.ok1 hk0
      have l2 := passM_lt (hsim.ok2 hz) hk1
      have l3 := hs.le (passM ops r).2
      have l4 := hs'.le (passM ops q).2
      rcases h.sim _ _ h2 with h3 | h3 | ⟨h3, h4⟩
      · left
        rw [rowL_st h.st1 _ _ _ _ _ h3]
        exact h3
      · right; left
        rw [rowL_st h.st2 _ _ _ _ _ (by rw [h3.2]; decide)]
        exact h3
      · rw [h3]
        exact rowL_sim hz h hs hs' first hn n n' _ _ _ h4 (by omega) (by omega)
theorem Gd.row (hz : Zok Z) {m m' : R → Ex × R} (h : Gd Z D d m m') (hs : Sh m) (hs' : Sh m') (first : Int) {ops : List Str} (hn : Zno Z ops) : Gd Z D d (rowM m first ops) (rowM m' first ops) := by
  refine ⟨fun r q hsim => ?_, fun r hc => ?_, fun r hc => ?_⟩
  · unfold rowM
    rcases h.sim r q hsim with h1 | h1 | ⟨h1, h2⟩
    · left
      rw [rowL_st h.st1 _ _ _ _ _ h1]
      exact h1
    · right; left
      rw [rowL_st h.st2 _ _ _ _ _ (by rw [h1.2]; decide)]
      exact h1
    · rw [h1]
      exact rowL_sim hz h hs hs' first hn _ _ _ _ _ h2 (Nat.le_refl _) (Nat.le_refl _)
  · have h1 := h.st1 r hc
    unfold rowM
    rw [rowL_st h.st1 _ _ _ _ _ (by rw [h1]; exact hc), h1]
  · have h1 := h.st2 r hc
    unfold rowM
    rw [rowL_st h.st2 _ _ _ _ _ (by rw [h1]; exact hc), h1]
theorem deepM_st {r : R} (h : r.c ≠ 0) : (deepM r).c = r.c := by
  have h1 : (r.deep 1).c ≠ 0 := h
  unfold deepM
  split
  · rw [failM_bad h1]; rfl
  · rfl
theorem withM_st (one : R → Ex × R) {r : R} (h : r.c ≠ 0) : (withM one r).2.c = r.c := by
  have h1 := deepM_st h
  unfold withM
  rw [if_neg (by rw [h1]; exact h)]
  exact h1
theorem Gd.within {m m' : R → Ex × R} (h : d + 1 ≤ 10 → d + D + 1 ≤ 10 → Gd Z D (d + 1) m m') : Gd Z D d (withM m) (withM m') := by
  refine ⟨fun r q hs => ?_, fun r hc => withM_st m hc, fun r hc => withM_st m' hc⟩
  obtain ⟨he, h1, h2, h3, h4⟩ := hs
  by_cases hr : r.d + 1 > 10
  · left
    have hd : deepM r = failM 10 (r.deep 1) := by unfold deepM; rw [if_pos hr]
    have hc := failM_c 10 (r.deep 1) (by decide)
    unfold withM
    rw [hd, if_neg hc]
    exact hc
  have hdr : deepM r = r.deep 1 := by unfold deepM; rw [if_neg hr]
  by_cases hq : q.d + 1 > 10
  · right; left
    have hd : deepM q = failM 10 (q.deep 1) := by unfold deepM; rw [if_pos hq]
    have hc : (failM 10 (q.deep 1)).c = 10 := by
      have : (q.deep 1).c = 0 := h4
      simp [failM, this]
    refine ⟨fun h0 => ?_, ?_⟩
    · subst h0; omega
    unfold withM
    rw [hd, if_neg (by rw [hc]; decide)]
    exact hc
  have hdq : deepM q = q.deep 1 := by unfold deepM; rw [if_neg hq]
  have hsim : Sim Z D (d + 1) (r.deep 1) (q.deep 1) := ⟨he, by show r.d + 1 = d + 1; omega, by show q.d + 1 = d + 1 + D; omega, h3, h4⟩
  have c1 : (r.deep 1).c = 0 := h3
  have c2 : (q.deep 1).c = 0 := h4
  unfold withM
  rw [hdr, hdq, if_pos c1, if_pos c2]
  rcases (h (by omega) (by omega)).sim _ _ hsim with g | g | ⟨g1, g2⟩
  · exact .inl g
  · exact .inr (.inl g)
  · exact .inr (.inr ⟨g1, g2.ext, by have := g2.d1; show _ + -1 = d; omega, by have := g2.d2; show _ + -1 = d + D; omega, g2.c1, g2.c2⟩)
theorem Gd.col (hz : Zt Z) : Gd Z D d colM colM :=
  ((Gd.name hz.toZok).bnd fun a => (Gd.has hz.toZok (hz.no (ls := [[46]]) (by decide))).bnd fun b => Gd.ite (c := b = true) ((Gd.name hz.toZok).bnd fun c => Gd.ret (Ex.mk 2 0 a c v0 [])) (Gd.ret (Ex.mk 2 0 [] a v0 []))).of_eq
    (fun r => by simp only [colM, bndM, retM, must', ite_app]) (fun r => by simp only [colM, bndM, retM, must', ite_app])
theorem Gd.test (hz : Zt Z) {m m' : R → Ex × R} (h : Gd Z D d m m') : Gd Z D d (testM m) (testM m') :=
  (h.bnd fun e => (Gd.pass hz.toZok (hz.no (ls := testOps) (by decide))).bnd fun k => Gd.ite (c := k < 0) (Gd.ret e) (Gd.ite (c := 3 + k ≤ 8) (h.bnd fun f => Gd.ret (opM (3 + k) e f))
    ((Gd.has hz.toZok (hz.no (ls := [sNOT]) (by decide))).bnd fun b => (Gd.must hz.toZok [sNULL]).bnd fun _ => Gd.ret (if b then ofM 4 (ofM 6 e) else ofM 6 e)))).of_eq
    (fun r => by simp only [testM, bndM, retM, must', ite_app]) (fun r => by simp only [testM, bndM, retM, must', ite_app])
theorem Gd.not (hz : Zt Z) {m m' t t' : R → Ex × R} (h : d + 1 ≤ 10 → d + D + 1 ≤ 10 → Gd Z D (d + 1) m m') (ht : Gd Z D d t t') : Gd Z D d (notM m t) (notM m' t') :=
  ((Gd.has hz.toZok (hz.no (ls := [sNOT]) (by decide))).bnd fun b => Gd.ite (c := b = true) ((Gd.within h).bnd fun e => Gd.ret (ofM 4 e)) ht).of_eq
    (fun r => by simp only [notM, bndM, retM, must', ite_app]) (fun r => by simp only [notM, bndM, retM, must', ite_app])
theorem Gd.fac (hz : Zt Z) {m m' t t' : R → Ex × R} (h : d + 1 ≤ 10 → d + D + 1 ≤ 10 → Gd Z D (d + 1) m m') (ht : d + 1 ≤ 10 → d + D + 1 ≤ 10 → Gd Z D (d + 1) t t') : Gd Z D d (facM m t) (facM m' t') :=
  ((Gd.lit hz.toZok (hz.no (by decide)) (hz.no (by decide))).bnd fun v => Gd.ite (c := v.2 = true) (Gd.ret (valM v.1)) ((Gd.pass hz.toZok (hz.no (ls := facOps) (by decide))).bnd fun k =>
    Gd.ite (c := k = 0) ((Gd.within h).bnd fun e => Gd.ret (ofM 5 e)) (Gd.ite (c := k = 1) ((Gd.within ht).bnd fun e => (Gd.must hz.toZok [[41]]).bnd fun _ => Gd.ret e) (Gd.col hz)))).of_eq
    (fun r => by simp only [facM, bndM, retM, must', ite_app]) (fun r => by simp only [facM, bndM, retM, must', ite_app])
structure GdLv (Z : List Tok) (D d : Int) (l l' : Lv) : Prop where
  fac : Gd Z D d l.fac l'.fac
  nt : Gd Z D d l.nt l'.nt
  ex : Gd Z D d l.ex l'.ex
theorem mkLv_gd (hz : Zt Z) {l l' : Lv} (hs : Lvs l) (hs' : Lvs l') (h : d + 1 ≤ 10 → d + D + 1 ≤ 10 → GdLv Z D (d + 1) l l') : GdLv Z D d (mkLv l) (mkLv l') := by
  have f1 := facM_sh hs.fac hs.ex
  have f2 := facM_sh hs'.fac hs'.ex
  have n1 := notM_sh hs.nt (testM_sh ((f1.row 11 termOps).row 9 sumOps))
  have n2 := notM_sh hs'.nt (testM_sh ((f2.row 11 termOps).row 9 sumOps))
  have gf : Gd Z D d (facM l.fac l.ex) (facM l'.fac l'.ex) := Gd.fac hz (fun a b => (h a b).fac) (fun a b => (h a b).ex)
  have gn := Gd.not hz (fun a b => (h a b).nt) (Gd.test hz ((gf.row hz.toZok f1 f2 11 (hz.no (ls := termOps) (by decide))).row hz.toZok (f1.row 11 termOps) (f2.row 11 termOps) 9 (hz.no (ls := sumOps) (by decide))))
  exact ⟨gf, gn, (gn.row hz.toZok n1 n2 2 (hz.no (ls := andOps) (by decide))).row hz.toZok (n1.row 2 andOps) (n2.row 2 andOps) 1 (hz.no (ls := exprOps) (by decide))⟩
/-- As deep as the other. -/
theorem lv_gd0 (hz : Zt Z) : ∀ (n : Nat), n ≤ 10 → GdLv Z 0 (10 - (n : Int)) (lv n) (lv n)
  | 0, _ => mkLv_gd hz ⟨⟨fun _ h => h, fun _ => rfl, fun _ => Nat.le_refl _⟩, ⟨fun _ h => h, fun _ => rfl, fun _ => Nat.le_refl _⟩, ⟨fun _ h => h, fun _ => rfl, fun _ => Nat.le_refl _⟩⟩
      ⟨⟨fun _ h => h, fun _ => rfl, fun _ => Nat.le_refl _⟩, ⟨fun _ h => h, fun _ => rfl, fun _ => Nat.le_refl _⟩, ⟨fun _ h => h, fun _ => rfl, fun _ => Nat.le_refl _⟩⟩ (fun h => by omega)
  | n + 1, hn => mkLv_gd hz (lv_sh n) (lv_sh n) fun _ _ => by
    have := lv_gd0 hz n (by omega)
    rw [show (10 : Int) - ((n + 1 : Nat) : Int) + 1 = 10 - (n : Int) from by omega]
    exact this
/-- The other is one deeper. -/
theorem lv_gd1 (hz : Zt Z) : ∀ (n : Nat), n ≤ 9 → GdLv Z 1 (9 - (n : Int)) (lv (n + 1)) (lv n)
  | 0, _ => mkLv_gd hz (lv_sh 0)
      ⟨⟨fun _ h => h, fun _ => rfl, fun _ => Nat.le_refl _⟩, ⟨fun _ h => h, fun _ => rfl, fun _ => Nat.le_refl _⟩, ⟨fun _ h => h, fun _ => rfl, fun _ => Nat.le_refl _⟩⟩ (fun _ h => by omega)
  | n + 1, hn => mkLv_gd hz (lv_sh (n + 1)) (lv_sh n) fun _ _ => by
    have := lv_gd1 hz n (by omega)
    rw [show (9 : Int) - ((n + 1 : Nat) : Int) + 1 = 9 - (n : Int) from by omega]
    exact this
theorem Gd.expr (hz : Zt Z) : Gd Z 0 0 exprM exprM := (lv_gd0 hz 10 (by omega)).ex
theorem Gd.expr1 (hz : Zt Z) : Gd Z 1 0 exprM (lv 9).ex := (lv_gd1 hz 9 (by omega)).ex
end
end Go.Proofs.Ytolhbjfaahcekaa
end
section
/- Plain: two readers side by side: statements. -/
set_option linter.unusedVariables false
set_option linter.unusedSimpArgs false
namespace Go.Proofs.Ytolhbjfaahcekaa

section
variable {Z : List Tok} {D d : Int}
theorem Gd.of_eq0 {α : Type} {f g f' g' : R → α × R} (h : Gd Z D d f g) (e1 : ∀ r : R, r.c = 0 → f' r = f r) (e2 : ∀ r : R, r.c = 0 → g' r = g r) (s1 : ∀ r : R, r.c ≠ 0 → (f' r).2.c = r.c) (s2 : ∀ r : R, r.c ≠ 0 → (g' r).2.c = r.c) : Gd Z D d f' g' :=
  ⟨fun r q hs => by rw [e1 r hs.c1, e2 q hs.c2]; exact h.sim r q hs, s1, s2⟩
theorem Gd.map {α β : Type} {f g : R → α × R} (h : Gd Z D d f g) (k : α → β) : Gd Z D d (fun r => (k (f r).1, (f r).2)) (fun r => (k (g r).1, (g r).2)) := h.bnd fun a => Gd.ret (k a)
theorem Gd.coA (hz : Zt Z) : Gd Z D d (bndM nameM fun n => bndM (passM coOps) fun k => if k = -1 then bndM (fail' 4) fun _ => retM (n, (1 : Int)) else if k = 1 then retM (n, 2) else retM (n, 1)) (bndM nameM fun n => bndM (passM coOps) fun k => if k = -1 then bndM (fail' 4) fun _ => retM (n, (1 : Int)) else if k = 1 then retM (n, 2) else retM (n, 1)) :=
  (Gd.name hz.toZok).bnd fun n => (Gd.pass hz.toZok (hz.no (by decide))).bnd fun k => Gd.ite ((Gd.fail 4 (by decide)).bnd fun _ => Gd.ret _) (Gd.ite (Gd.ret _) (Gd.ret _))
theorem Gd.co (hz : Zt Z) : Gd Z D d coM coM := by
  have h := (Gd.coA (D := D) (d := d) hz).bnd fun p => (Gd.has hz.toZok (hz.no (ls := [sNOT]) (by decide))).bnd fun nn => (Gd.ite (c := nn = true) (Gd.must hz.toZok [sNULL]) (Gd.ret ())).bnd fun _ => (Gd.has hz.toZok (hz.no (ls := [sUNIQUE]) (by decide))).bnd fun u => Gd.ret (Col.mk p.1 p.2 nn u)
  have e : ∀ r, coM r = _ := fun r => by
    show coM r = bndM (bndM nameM fun n => bndM (passM coOps) fun k => if k = -1 then bndM (fail' 4) fun _ => retM (n, (1 : Int)) else if k = 1 then retM (n, 2) else retM (n, 1)) (fun p => bndM (hasM sNOT) fun nn => bndM (if nn = true then must' [sNULL] else retM ()) fun _ => bndM (hasM sUNIQUE) fun u => retM (Col.mk p.1 p.2 nn u)) r
    have h1 : (bndM nameM fun n => bndM (passM coOps) fun k => if k = -1 then bndM (fail' 4) fun _ => retM (n, (1 : Int)) else if k = 1 then retM (n, 2) else retM (n, 1)) r = (((nameM r).1, (Proofs.Ytolhbjfaahcekaa.coA r).1), (Proofs.Ytolhbjfaahcekaa.coA r).2) := by
      simp only [Proofs.Ytolhbjfaahcekaa.coA, bndM, retM, fail', ite_app]
      (repeat' split) <;> rfl
    unfold bndM at h1 ⊢
    rw [h1]
    simp only [coM, coB, retM, must', ite_app]
    cases (hasM sNOT (Proofs.Ytolhbjfaahcekaa.coA r).2).1 <;> rfl
  exact h.of_eq e e
theorem Gd.maybe (hz : Zt Z) {w : Str} (hw : decide ([41] ∉ [w] ∧ [59] ∉ [w]) = true) : Gd Z 0 0 (maybeM w) (maybeM w) :=
  ((Gd.has hz.toZok (hz.no hw)).bnd fun b => Gd.ite (c := b = true) ((Gd.expr hz).bnd fun e => Gd.ret (some e)) (Gd.ret none)).of_eq
    (fun r => by simp only [maybeM, bndM, retM, ite_app]) (fun r => by simp only [maybeM, bndM, retM, ite_app])
theorem Gd.by (hz : Zt Z) {w : Str} (hw : decide ([41] ∉ [w] ∧ [59] ∉ [w]) = true) : Gd Z D d (byM w) (byM w) :=
  ((Gd.has hz.toZok (hz.no hw)).bnd fun b => Gd.ite (c := b = true) ((Gd.must hz.toZok [[66, 89]]).bnd fun _ => (Gd.col hz).bnd fun e => Gd.ret (some e)) (Gd.ret none)).of_eq
    (fun r => by simp only [byM, bndM, retM, must', ite_app]) (fun r => by simp only [byM, bndM, retM, must', ite_app])
theorem Gd.itArg (hz : Zt Z) (k : Int) : Gd Z 0 0 (itArg k) (itArg k) :=
  ((Gd.expr hz).bnd fun e => (Gd.must hz.toZok [[41]]).bnd fun _ => Gd.ret (Itm.mk k [e])).of_eq (fun _ => rfl) (fun _ => rfl)
theorem Gd.item (hz : Zt Z) : Gd Z 0 0 itemM itemM :=
  ((Gd.pass hz.toZok (hz.no (ls := itOps) (by decide))).bnd fun k => Gd.ite (c := k < 0) ((Gd.expr hz).bnd fun e => Gd.ret (Itm.mk 2 [e])) (Gd.ite (c := k = 4) (Gd.ret (Itm.mk 1 [])) ((Gd.must hz.toZok [[40]]).bnd fun _ =>
    Gd.ite (c := k > 0) (Gd.itArg hz (4 + k)) ((Gd.has hz.toZok (hz.no (ls := [[42]]) (by decide))).bnd fun b => Gd.ite (c := b = true) ((Gd.must hz.toZok [[41]]).bnd fun _ => Gd.ret (Itm.mk 3 [])) (Gd.itArg hz (4 + k)))))).of_eq
    (fun r => by simp only [itemM, bndM, retM, must', ite_app]) (fun r => by simp only [itemM, bndM, retM, must', ite_app])
/-! ### many -/
def oneN {σ : Type} (one : R × σ → R × σ) (s : σ) : R → σ × R := fun r => ((one (r, s)).2, (one (r, s)).1)
def manyN {σ : Type} (one : R × σ → R × σ) (m : Nat) (s : σ) : R → σ × R := fun r => ((manyM one m (r, s)).2, (manyM one m (r, s)).1)
theorem manyN_succ {σ : Type} (one : R × σ → R × σ) (m : Nat) (s : σ) (r : R) : manyN one (m + 1) s r = if (hasM [44] (oneN one s r).2).1 = true then manyN one m (oneN one s r).1 (hasM [44] (oneN one s r).2).2 else ((oneN one s r).1, (hasM [44] (oneN one s r).2).2) := by
  by_cases h : (hasM [44] (oneN one s r).2).1 = true
  · rw [if_pos h]
    have h' : (hasM [44] (one (r, s)).1).1 = true := h
    simp only [manyN, manyM, if_pos h']
    rfl
  · rw [if_neg h]
    have h' : ¬ (hasM [44] (one (r, s)).1).1 = true := h
    simp only [manyN, manyM, if_neg h']
    rfl
theorem Gd.many (hz : Zt Z) {σ : Type} {one : R × σ → R × σ} (h : ∀ s, Gd Z D d (oneN one s) (oneN one s)) : ∀ (m : Nat) (s : σ), Gd Z D d (manyN one m s) (manyN one m s)
  | 0, s => ((Gd.fail 2 (by decide)).bnd fun _ => (h s).bnd fun s1 => (Gd.has hz.toZok (hz.no (ls := [[44]]) (by decide))).bnd fun _ => Gd.ret s1).of_eq (fun _ => rfl) (fun _ => rfl)
  | m + 1, s => ((h s).bnd fun s1 => (Gd.has hz.toZok (hz.no (ls := [[44]]) (by decide))).bnd fun b => Gd.ite (c := b = true) (Gd.many hz h m s1) (Gd.ret s1)).of_eq
      (fun r => by rw [manyN_succ]; simp only [bndM, retM, ite_app]) (fun r => by rw [manyN_succ]; simp only [bndM, retM, ite_app])
theorem Gd.tupOne (hz : Zt Z) (s : List Vl) : Gd Z D d (oneN tupOne s) (oneN tupOne s) :=
  ((Gd.lit hz.toZok (hz.no (by decide)) (hz.no (by decide))).bnd fun v => (Gd.ite (c := v.2 = true) (Gd.ret ()) (Gd.fail 4 (by decide))).bnd fun _ => Gd.ret (s ++ [v.1])).of_eq
    (fun r => by simp only [oneN, Proofs.Ytolhbjfaahcekaa.tupOne, bndM, retM, fail', ite_app]; split <;> rfl) (fun r => by simp only [oneN, Proofs.Ytolhbjfaahcekaa.tupOne, bndM, retM, fail', ite_app]; split <;> rfl)
theorem Gd.tuple (hz : Zt Z) : Gd Z D d tupleM tupleM :=
  ((Gd.must hz.toZok [[40]]).bnd fun _ => (Gd.many hz (Gd.tupOne hz) 8 []).bnd fun s => (Gd.must hz.toZok [[41]]).bnd fun _ => Gd.ret s).of_eq (fun _ => rfl) (fun _ => rfl)
theorem Gd.insert (hz : Zt Z) : Gd Z D d insertM insertM :=
  ((Gd.must hz.toZok [[73, 78, 84, 79]]).bnd fun _ => (Gd.name hz.toZok).bnd fun t => (Gd.must hz.toZok [[86, 65, 76, 85, 69, 83]]).bnd fun _ => (Gd.many hz (one := insOne) (fun s => ((Gd.tuple hz).bnd fun l => Gd.ret (s ++ [l])).of_eq (fun _ => rfl) (fun _ => rfl)) 16 []).bnd fun rows =>
    Gd.ret { stm0 3 with table := t, rows := rows }).of_eq (fun _ => rfl) (fun _ => rfl)
theorem Gd.update (hz : Zt Z) : Gd Z 0 0 updateM updateM :=
  ((Gd.name hz.toZok).bnd fun t => (Gd.must hz.toZok [[83, 69, 84]]).bnd fun _ => (Gd.many hz (one := updOne) (fun s => ((Gd.name hz.toZok).bnd fun n => (Gd.must hz.toZok [[61]]).bnd fun _ => (Gd.expr hz).bnd fun e => Gd.ret (s ++ [⟨n, e⟩])).of_eq (fun _ => rfl) (fun _ => rfl)) 8 []).bnd fun sets =>
    (Gd.maybe hz (w := [87, 72, 69, 82, 69]) (by decide)).bnd fun w => Gd.ret { stm0 4 with table := t, sets := sets, wh := w.toList }).of_eq (fun _ => rfl) (fun _ => rfl)
theorem Gd.drop (hz : Zt Z) : Gd Z D d dropM dropM :=
  ((Gd.must hz.toZok [[84, 65, 66, 76, 69]]).bnd fun _ => (Gd.name hz.toZok).bnd fun t => Gd.ret { stm0 2 with table := t }).of_eq (fun _ => rfl) (fun _ => rfl)
theorem Gd.remove (hz : Zt Z) : Gd Z 0 0 removeM removeM :=
  ((Gd.must hz.toZok [[70, 82, 79, 77]]).bnd fun _ => (Gd.name hz.toZok).bnd fun t => (Gd.maybe hz (w := [87, 72, 69, 82, 69]) (by decide)).bnd fun w => Gd.ret { stm0 5 with table := t, wh := w.toList }).of_eq (fun _ => rfl) (fun _ => rfl)
theorem Gd.cre (hz : Zt Z) : ∀ (n : Nat) (cs : List Col), Gd Z D d (creL n cs) (creL n cs)
  | 0, cs => Gd.ret cs
  | n + 1, cs => by
    have hrest : Gd Z D d (bndM (if cs.length = 8 then fail' 2 else retM ()) fun _ => bndM coM fun c => bndM (must' [[44]]) fun _ => creL n (cs ++ [c])) (bndM (if cs.length = 8 then fail' 2 else retM ()) fun _ => bndM coM fun c => bndM (must' [[44]]) fun _ => creL n (cs ++ [c])) :=
      (Gd.ite (Gd.fail 2 (by decide)) (Gd.ret ())).bnd fun _ => (Gd.co hz).bnd fun c => (Gd.must hz.toZok [[44]]).bnd fun _ => Gd.cre hz n (cs ++ [c])
    have hst : ∀ r : R, r.c ≠ 0 → (creL (n + 1) cs r).2.c = r.c := fun r hc => by unfold creL; rw [if_pos hc]
    by_cases hcs : cs = []
    · have e : ∀ r : R, r.c = 0 → creL (n + 1) cs r = _ := fun r hc => by
        show creL (n + 1) cs r = (bndM (if cs.length = 8 then fail' 2 else retM ()) fun _ => bndM coM fun c => bndM (must' [[44]]) fun _ => creL n (cs ++ [c])) r
        unfold creL
        rw [if_neg (by simp [hc]), if_neg (by simp [hcs])]
        simp only [bndM, ite_app, fail', retM, must']
        split <;> rfl
      exact hrest.of_eq0 e e hst hst
    · have e : ∀ r : R, r.c = 0 → creL (n + 1) cs r = _ := fun r hc => by
        show creL (n + 1) cs r = (bndM (hasM sPRIM) fun b => if b = true then retM cs else bndM (if cs.length = 8 then fail' 2 else retM ()) fun _ => bndM coM fun c => bndM (must' [[44]]) fun _ => creL n (cs ++ [c])) r
        unfold creL
        rw [if_neg (by simp [hc])]
        cases hb : (hasM sPRIM r).1 with
        | true =>
          rw [if_pos ⟨hcs, rfl⟩]
          simp only [bndM, ite_app, hb, if_true, retM]
        | false =>
          rw [if_neg (by simp)]
          simp only [bndM, ite_app, hb, Bool.false_eq_true, if_false, retM, fail', must', hasM_no hb]
          split <;> rfl
      exact ((Gd.has hz.toZok (hz.no (ls := [sPRIM]) (by decide))).bnd fun b => Gd.ite (c := b = true) (Gd.ret cs) hrest).of_eq0 e e hst hst
theorem Gd.create (hz : Zt Z) : Gd Z D d createM createM :=
  ((Gd.must hz.toZok [[84, 65, 66, 76, 69]]).bnd fun _ => (Gd.name hz.toZok).bnd fun t => (Gd.must hz.toZok [[40]]).bnd fun _ => (Gd.cre hz 10 []).bnd fun cs => (Gd.must hz.toZok [[75, 69, 89], [40]]).bnd fun _ => (Gd.name hz.toZok).bnd fun p =>
    (Gd.must hz.toZok [[41], [41]]).bnd fun _ => Gd.ret { stm0 1 with table := t, cols := cs, prim := p }).of_eq (fun _ => rfl) (fun _ => rfl)
theorem Gd.join (hz : Zt Z) : Gd Z 0 0 joinM joinM :=
  ((Gd.has hz.toZok (hz.no (ls := [[74, 79, 73, 78]]) (by decide))).bnd fun b => Gd.ite (c := b = true) ((Gd.name hz.toZok).bnd fun n => (Gd.must hz.toZok [[79, 78]]).bnd fun _ => (Gd.expr hz).bnd fun e => Gd.ret (n, some e)) (Gd.ret ([], none))).of_eq
    (fun r => by simp only [joinM, bndM, retM, must', ite_app]) (fun r => by simp only [joinM, bndM, retM, must', ite_app])
theorem Gd.desc (hz : Zt Z) (o : Option Ex) : Gd Z D d (descM o) (descM o) := by
  cases o with
  | none => exact Gd.ret false
  | some e => exact Gd.has hz.toZok (hz.no (by decide))
theorem Gd.lim (hz : Zt Z) : Gd Z D d limM limM :=
  ((Gd.has hz.toZok (hz.no (ls := [[76, 73, 77, 73, 84]]) (by decide))).bnd fun b => Gd.ite (c := b = true) ((Gd.take hz.toZok (k := 3) (by decide)).bnd fun t => Gd.ret t.2) (Gd.ret (-1))).of_eq
    (fun r => by simp only [limM, bndM, retM, takeN, ite_app]) (fun r => by simp only [limM, bndM, retM, takeN, ite_app])
theorem Gd.choose (hz : Zt Z) : Gd Z 0 0 chooseM chooseM :=
  ((Gd.many hz (one := choOne) (fun s => ((Gd.item hz).bnd fun i => Gd.ret (s ++ [i])).of_eq (fun _ => rfl) (fun _ => rfl)) 8 []).bnd fun is => (Gd.must hz.toZok [[70, 82, 79, 77]]).bnd fun _ => (Gd.name hz.toZok).bnd fun t => (Gd.join hz).bnd fun j =>
    (Gd.maybe hz (w := [87, 72, 69, 82, 69]) (by decide)).bnd fun w => (Gd.by hz (w := [71, 82, 79, 85, 80]) (by decide)).bnd fun g => (Gd.by hz (w := [79, 82, 68, 69, 82]) (by decide)).bnd fun o => (Gd.desc hz o).bnd fun d => (Gd.lim hz).bnd fun l =>
      Gd.ret (Stm.mk 6 t [] [] [] [] is j.1 j.2.toList w.toList g.toList o.toList d l)).of_eq (fun _ => rfl) (fun _ => rfl)
theorem Gd.state (hz : Zt Z) : Gd Z 0 0 stateM stateM :=
  ((Gd.pass hz.toZok (hz.no (ls := stOps) (by decide))).bnd fun k => Gd.ite (c := k = -1) ((Gd.fail 4 (by decide)).bnd fun _ => Gd.ret (stm0 0)) (Gd.ite (c := k = 0) (Gd.create hz) (Gd.ite (c := k = 1) (Gd.drop hz) (Gd.ite (c := k = 2) (Gd.insert hz)
    (Gd.ite (c := k = 3) (Gd.update hz) (Gd.ite (c := k = 4) (Gd.remove hz) (Gd.choose hz))))))).of_eq
    (fun r => by simp only [stateM, bndM, retM, fail', ite_app]) (fun r => by simp only [stateM, bndM, retM, fail', ite_app])
end
end Go.Proofs.Ytolhbjfaahcekaa
end
