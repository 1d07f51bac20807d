/- Texts of this claim's author, joined: Pm, Pn, Qi, Sd, P1, Ra, Rb, Rc, Rd, Re, Rf, Rg, Rh, La, Lb, Lc, Kb, Ld, Ua, Ka. -/
import Derived.Test.YtpepmfhemjeocaaGreatDoorMc
import Derived.Lib.AppendIntMem
import Derived.Lib.Replace
section
/- The parser's reader: factor; all levels. -/
set_option linter.unusedVariables false
set_option linter.unusedSimpArgs false
namespace Go.Proofs.YtpepmfhemjeocaaGreatDoor
open Go

def valM (v : Vl) : Ex := .mk 1 0 [] [] v []
def facOps : List Str := [[45], [40]]
def facM (fac ex : R → Ex × R) (r : R) : Ex × R :=
  if (litM r).1.2 then (valM (litM r).1.1, (litM r).2)
  else if (passM facOps (litM r).2).1 = 0 then (ofM 5 (withM fac (passM facOps (litM r).2).2).1, (withM fac (passM facOps (litM r).2).2).2)
  else if (passM facOps (litM r).2).1 = 1 then ((withM ex (passM facOps (litM r).2).2).1, mustM [[41]] (withM ex (passM facOps (litM r).2).2).2)
  else colM (passM facOps (litM r).2).2
theorem facM_sh {fac ex : R → Ex × R} (hf : Sh fac) (he : Sh ex) : Sh (facM fac ex) := by
  have wf := withM_sh hf
  have we := withM_sh he
  refine ⟨fun r hr => ?_, fun r => ?_, fun r => ?_⟩ <;> unfold facM <;> (repeat' split)
  all_goals first
    | exact litM_ok hr
    | exact wf.ok _ (passM_ok (litM_ok hr))
    | exact mustM_ok (we.ok _ (passM_ok (litM_ok hr)))
    | exact colM_sh.ok _ (passM_ok (litM_ok hr))
    | exact litM_d r
    | exact (wf.dd _).trans ((passM_d _ _).trans (litM_d r))
    | exact (mustM_d _ _).trans ((we.dd _).trans ((passM_d _ _).trans (litM_d r)))
    | exact (colM_sh.dd _).trans ((passM_d _ _).trans (litM_d r))
    | exact litM_le r
    | exact Nat.le_trans (wf.le _) (Nat.le_trans (passM_le _ _) (litM_le r))
    | exact Nat.le_trans (mustM_le _ _) (Nat.le_trans (we.le _) (Nat.le_trans (passM_le _ _) (litM_le r)))
    | exact Nat.le_trans (colM_sh.le _) (Nat.le_trans (passM_le _ _) (litM_le r))
theorem factor_fn {d : Int} (hd0 : 0 ≤ d) (hd1 : d ≤ 10) {fac ex : R → Ex × R} (sf : Sh fac) (se : Sh ex) (pf : d + 1 ≤ 10 → Fn 210 (d + 1) fac) (pe : d + 1 ≤ 10 → Fn 46 (d + 1) ex) :
    Fn 210 d (facM fac ex) := by
  obtain ⟨h1, h2, h3⟩ := facM_sh sf se
  refine ⟨fun r h hd => ?_, h1, h2, h3⟩
  have hokl := litM_ok h
  have hokp : (passM facOps (litM r).2).2.ok := passM_ok hokl
  have hdp : (passM facOps (litM r).2).2.d = d := by rw [passM_d, litM_d, hd]
  refine PC.intro tab_ok Tryz.func210 rfl (by kernel_rfl) Tryz.ntmps210 (Nat.le_of_ble_eq_true rfl) (rs := _) (congrArg Array.toList Tryz.results210) ?_
  refine PW.go tab_ok [] fun K hK => ?_
  simp only [go_sem, ↓reduceIte, reduceCtorEq, Nat.reduceBEq, Nat.reduceAdd, Nat.reduceMul, Nat.reduceSub, Nat.reduceLT, Nat.reduceLeDiff, Nat.reduceEqDiff]
  (refine hK _ _ ?_; (try clear hK); (try clear K))
  refine PW.seq_k fun K0 hK0 => ?_
  refine PW.go tab_ok [] fun K hK => ?_
  simp only [go_sem, ↓reduceIte, reduceCtorEq, Nat.reduceBEq, Nat.reduceAdd, Nat.reduceMul, Nat.reduceSub, Nat.reduceLT, Nat.reduceLeDiff, Nat.reduceEqDiff]
  refine (literal_pc h).use 0 rfl (Weaks.refl _) rfl ?_
  refine PO.go tab_ok [] ?_
  simp only [vC, go_sem, ↓reduceIte, reduceCtorEq, Nat.reduceBEq, Nat.reduceAdd, Nat.reduceMul, Nat.reduceSub, Nat.reduceLT, Nat.reduceLeDiff, Nat.reduceEqDiff]
  (refine hK _ _ ?_; (try clear hK); (try clear K))
  refine PW.go tab_ok [] fun K hK => ?_
  simp only [go_sem, ↓reduceIte, reduceCtorEq, Nat.reduceBEq, Nat.reduceAdd, Nat.reduceMul, Nat.reduceSub, Nat.reduceLT, Nat.reduceLeDiff, Nat.reduceEqDiff]
  (refine hK _ _ ?_; (try clear hK); (try clear K))
  refine PW.cond_split (b := (litM r).1.2) rfl ?_ ?_ <;> intro hb
  · refine PW.go tab_ok [] fun K hK => ?_
    simp only [go_sem, ↓reduceIte, reduceCtorEq, Nat.reduceBEq, Nat.reduceAdd, Nat.reduceMul, Nat.reduceSub, Nat.reduceLT, Nat.reduceLeDiff, Nat.reduceEqDiff]
    (refine hK _ _ ?_; (try clear hK); (try clear K))
    refine PW.ret (OneM.fin (r' := (facM fac ex r).2) (x := exPV (facM fac ex r).1) (.inl rfl) rfl ?_ ?_ (exPV_clean _))
    · simp only [facM, if_pos hb]
    · simp only [facM, if_pos hb]
      exact ex_weak _ _ _ _ _ _ _
  refine PW.skip (hK0 _ _ ?_)
  clear hK0 K0
  have hb' : ¬ (litM r).1.2 = true := by simp [hb]
  refine PW.seq_k fun K0 hK0 => ?_
  refine PW.go tab_ok [] fun K hK => ?_
  simp only [go_sem, ↓reduceIte, reduceCtorEq, Nat.reduceBEq, Nat.reduceAdd, Nat.reduceMul, Nat.reduceSub, Nat.reduceLT, Nat.reduceLeDiff, Nat.reduceEqDiff]
  refine (pass_pc (ls := facOps) (by decide) hokl).use 0 rfl (Weaks.refl _) (strs_clean1 facOps) ?_
  refine PO.go tab_ok [] ?_
  simp only [go_sem, ↓reduceIte, reduceCtorEq, Nat.reduceBEq, Nat.reduceAdd, Nat.reduceMul, Nat.reduceSub, Nat.reduceLT, Nat.reduceLeDiff, Nat.reduceEqDiff]
  (refine hK _ _ ?_; (try clear hK); (try clear K))
  refine PW.block ?_
  refine PW.go tab_ok [] fun K hK => ?_
  simp only [go_sem, ↓reduceIte, reduceCtorEq, Nat.reduceBEq, Nat.reduceAdd, Nat.reduceMul, Nat.reduceSub, Nat.reduceLT, Nat.reduceLeDiff, Nat.reduceEqDiff]
  (refine hK _ _ ?_; (try clear hK); (try clear K))
  refine PW.cond_split (b := (passM facOps (litM r).2).1 == 0) rfl ?_ ?_ <;> intro hb1
  · have hk : (passM facOps (litM r).2).1 = 0 := by simpa using hb1
    refine PW.go tab_ok [] fun K hK => ?_
    simp only [go_sem, ↓reduceIte, reduceCtorEq, Nat.reduceBEq, Nat.reduceAdd, Nat.reduceMul, Nat.reduceSub, Nat.reduceLT, Nat.reduceLeDiff, Nat.reduceEqDiff]
    refine (within_fn sf pf hokp hdp hd0 hd1).use 0 rfl (Weaks.refl _) rfl ?_
    refine PO.go tab_ok [] ?_
    simp only [go_sem, ↓reduceIte, reduceCtorEq, Nat.reduceBEq, Nat.reduceAdd, Nat.reduceMul, Nat.reduceSub, Nat.reduceLT, Nat.reduceLeDiff, Nat.reduceEqDiff]
    refine (of_pc 5 (withM fac (passM facOps (litM r).2).2).1).use (Weaks.refl _) (by simp [PVs.clean, PV.clean, exPV_clean]) (exPV_clean _) ?_
    refine PO.go tab_ok [] ?_
    simp only [exPV_cells, exC_len, exC_all, exC_take, exC_drop, agg_exC, go_sem, ↓reduceIte, reduceCtorEq, Nat.reduceBEq, Nat.reduceAdd, Nat.reduceMul, Nat.reduceSub, Nat.reduceLT, Nat.reduceLeDiff, Nat.reduceEqDiff]
    (refine hK _ _ ?_; (try clear hK); (try clear K))
    refine PW.ret (OneM.fin (r' := (facM fac ex r).2) (.inl rfl) (res_cell (x := exPV (ofM 5 (withM fac (passM facOps (litM r).2).2).1)) rfl rfl (by simp only [exPV_cells, exC_len, exC_all, exC_take, exC_drop, agg_exC, go_sem, ↓reduceIte, reduceCtorEq, Nat.reduceBEq, Nat.reduceAdd, Nat.reduceMul, Nat.reduceSub, Nat.reduceLT, Nat.reduceLeDiff, Nat.reduceEqDiff])) ?_ ?_ (exPV_clean _))
    · simp only [facM, if_neg hb', if_pos hk]
    · simp only [facM, if_neg hb', if_pos hk]
      exact .refl _
  have hk : ¬ (passM facOps (litM r).2).1 = 0 := by simpa using hb1
  refine PW.go tab_ok [] fun K hK => ?_
  simp only [go_sem, ↓reduceIte, reduceCtorEq, Nat.reduceBEq, Nat.reduceAdd, Nat.reduceMul, Nat.reduceSub, Nat.reduceLT, Nat.reduceLeDiff, Nat.reduceEqDiff]
  (refine hK _ _ ?_; (try clear hK); (try clear K))
  refine PW.cond_split (b := (passM facOps (litM r).2).1 == 1) rfl ?_ ?_ <;> intro hb2
  · have hk2 : (passM facOps (litM r).2).1 = 1 := by simpa using hb2
    refine PW.go tab_ok [] fun K hK => ?_
    simp only [go_sem, ↓reduceIte, reduceCtorEq, Nat.reduceBEq, Nat.reduceAdd, Nat.reduceMul, Nat.reduceSub, Nat.reduceLT, Nat.reduceLeDiff, Nat.reduceEqDiff]
    refine (within_fn se pe hokp hdp hd0 hd1).use 0 rfl (Weaks.refl _) rfl ?_
    refine PO.go tab_ok [] ?_
    simp only [exPV_cells, exC_len, exC_all, exC_take, exC_drop, agg_exC, go_sem, ↓reduceIte, reduceCtorEq, Nat.reduceBEq, Nat.reduceAdd, Nat.reduceMul, Nat.reduceSub, Nat.reduceLT, Nat.reduceLeDiff, Nat.reduceEqDiff]
    (refine hK _ _ ?_; (try clear hK); (try clear K))
    refine PW.go tab_ok [] fun K hK => ?_
    simp only [go_sem, ↓reduceIte, reduceCtorEq, Nat.reduceBEq, Nat.reduceAdd, Nat.reduceMul, Nat.reduceSub, Nat.reduceLT, Nat.reduceLeDiff, Nat.reduceEqDiff]
    refine (must_pc (ls := [[41]]) (by decide) ((withM_sh se).ok _ hokp)).use 0 rfl (Weaks.refl _) (strs_clean1 [[41]]) ?_
    refine PO.go tab_ok [] ?_
    simp only [go_sem, ↓reduceIte, reduceCtorEq, Nat.reduceBEq, Nat.reduceAdd, Nat.reduceMul, Nat.reduceSub, Nat.reduceLT, Nat.reduceLeDiff, Nat.reduceEqDiff]
    (refine hK _ _ ?_; (try clear hK); (try clear K))
    refine PW.go tab_ok [] fun K hK => ?_
    simp only [exPV_cells, exC_len, exC_all, exC_take, exC_drop, agg_exC, go_sem, ↓reduceIte, reduceCtorEq, Nat.reduceBEq, Nat.reduceAdd, Nat.reduceMul, Nat.reduceSub, Nat.reduceLT, Nat.reduceLeDiff, Nat.reduceEqDiff]
    (refine hK _ _ ?_; (try clear hK); (try clear K))
    refine PW.ret (OneM.fin (r' := (facM fac ex r).2) (.inl rfl) (res_cell (x := exPV (withM ex (passM facOps (litM r).2).2).1) rfl rfl (by simp only [exPV_cells, exC_len, exC_all, exC_take, exC_drop, agg_exC, go_sem, ↓reduceIte, reduceCtorEq, Nat.reduceBEq, Nat.reduceAdd, Nat.reduceMul, Nat.reduceSub, Nat.reduceLT, Nat.reduceLeDiff, Nat.reduceEqDiff])) ?_ ?_ (exPV_clean _))
    · simp only [facM, if_neg hb', if_neg hk, if_pos hk2]
    · simp only [facM, if_neg hb', if_neg hk, if_pos hk2]
      exact .refl _
  have hk2 : ¬ (passM facOps (litM r).2).1 = 1 := by simpa using hb2
  refine PW.skip (hK0 _ _ ?_)
  clear hK0 K0
  refine PW.go tab_ok [] fun K hK => ?_
  simp only [go_sem, ↓reduceIte, reduceCtorEq, Nat.reduceBEq, Nat.reduceAdd, Nat.reduceMul, Nat.reduceSub, Nat.reduceLT, Nat.reduceLeDiff, Nat.reduceEqDiff]
  refine (column_pc hokp).use 0 rfl (Weaks.refl _) rfl ?_
  refine PO.go tab_ok [] ?_
  simp only [exPV_cells, exC_len, exC_all, exC_take, exC_drop, agg_exC, go_sem, ↓reduceIte, reduceCtorEq, Nat.reduceBEq, Nat.reduceAdd, Nat.reduceMul, Nat.reduceSub, Nat.reduceLT, Nat.reduceLeDiff, Nat.reduceEqDiff]
  (refine hK _ _ ?_; (try clear hK); (try clear K))
  refine PW.ret (OneM.fin (r' := (facM fac ex r).2) (.inl rfl) (res_cell (x := exPV (colM (passM facOps (litM r).2).2).1) rfl rfl (by simp only [exPV_cells, exC_len, exC_all, exC_take, exC_drop, agg_exC, go_sem, ↓reduceIte, reduceCtorEq, Nat.reduceBEq, Nat.reduceAdd, Nat.reduceMul, Nat.reduceSub, Nat.reduceLT, Nat.reduceLeDiff, Nat.reduceEqDiff])) ?_ ?_ (exPV_clean _))
  · simp only [facM, if_neg hb', if_neg hk, if_neg hk2]
  · simp only [facM, if_neg hb', if_neg hk, if_neg hk2]
    exact .refl _

/-- The methods, at a depth: so many more levels are let in. -/
structure Lv where
  fac : R → Ex × R
  nt : R → Ex × R
  ex : R → Ex × R
def mkLv (lo : Lv) : Lv :=
  let f := facM lo.fac lo.ex
  let n := notM lo.nt (testM (rowM (rowM f 11 termOps) 9 sumOps))
  ⟨f, n, rowM (rowM n 2 andOps) 1 exprOps⟩
def lv : Nat → Lv
  | 0 => mkLv ⟨fun r => (ex0, r), fun r => (ex0, r), fun r => (ex0, r)⟩
  | n + 1 => mkLv (lv n)
structure Lvs (l : Lv) : Prop where
  fac : Sh l.fac
  nt : Sh l.nt
  ex : Sh l.ex
theorem mkLv_sh {l : Lv} (h : Lvs l) : Lvs (mkLv l) := by
  have hf := facM_sh h.fac h.ex
  have hn := notM_sh h.nt (testM_sh ((hf.row 11 termOps).row 9 sumOps))
  exact ⟨hf, hn, (hn.row 2 andOps).row 1 exprOps⟩
theorem lv_sh : ∀ n, Lvs (lv n)
  | 0 => mkLv_sh ⟨⟨fun _ h => h, fun _ => rfl, fun _ => Nat.le_refl _⟩, ⟨fun _ h => h, fun _ => rfl, fun _ => Nat.le_refl _⟩, ⟨fun _ h => h, fun _ => rfl, fun _ => Nat.le_refl _⟩⟩
  | n + 1 => mkLv_sh (lv_sh n)
structure LvFn (d : Int) (l : Lv) : Prop where
  fac : Fn 210 d l.fac
  nt : Fn 166 d l.nt
  ex : Fn 46 d l.ex
theorem mkLv_fn {d : Int} (hd0 : 0 ≤ d) (hd1 : d ≤ 10) {l : Lv} (hs : Lvs l) (hp : d + 1 ≤ 10 → LvFn (d + 1) l) : LvFn d (mkLv l) := by
  have hf := factor_fn hd0 hd1 hs.fac hs.ex (fun h => (hp h).fac) (fun h => (hp h).ex)
  have hn := not_fn hd0 hd1 hs.nt (fun h => (hp h).nt) (test_fn (sum_fn (term_fn hf)))
  exact ⟨hf, hn, expr_fn (and_fn hn)⟩
theorem lv_fn : ∀ (n : Nat), n ≤ 10 → LvFn (10 - (n : Int)) (lv n)
  | 0, _ => mkLv_fn (by omega) (by omega) ⟨⟨fun _ h => h, fun _ => rfl, fun _ => Nat.le_refl _⟩, ⟨fun _ h => h, fun _ => rfl, fun _ => Nat.le_refl _⟩, ⟨fun _ h => h, fun _ => rfl, fun _ => Nat.le_refl _⟩⟩ (fun h => by omega)
  | n + 1, hn => mkLv_fn (by omega) (by omega) (lv_sh n) fun _ => by
    have := lv_fn n (by omega)
    rw [show (10 : Int) - ((n + 1 : Nat) : Int) + 1 = 10 - (n : Int) from by omega]
    exact this
/-- An expression, from no depth. -/
def exprM : R → Ex × R := (lv 10).ex
theorem expr_pc {r : R} (h : r.ok) (hd : r.d = 0) : OneM Tryz.prog 46 [] r (exPV (exprM r).1) (exprM r).2 := (lv_fn 10 (by omega)).ex.pc r h hd
theorem exprM_sh : Sh exprM := (lv_sh 10).ex
end Go.Proofs.YtpepmfhemjeocaaGreatDoor
end
section
/- parse.One, over what the lexer gives. -/
set_option linter.unusedVariables false
set_option linter.unusedSimpArgs false
namespace Go.Proofs.YtpepmfhemjeocaaGreatDoor
open Go

def oneM (l : List Tok) (f : Ft) : Ex × Ft :=
  if f.c ≠ 0 then (ex0, f)
  else if (endM (exprM ⟨l, 0, 0, 0⟩).2).c ≠ 0 then (ex0, ⟨(endM (exprM ⟨l, 0, 0, 0⟩).2).c, (endM (exprM ⟨l, 0, 0, 0⟩).2).a⟩)
  else ((exprM ⟨l, 0, 0, 0⟩).1, ⟨0, 0⟩)
theorem endM_ok {r : R} (h : r.ok) : (endM r).ok := by
  unfold endM
  split
  · exact failM_ok h 4
  · exact h
theorem one_pc {s : Str} {l : List Tok} {f : Ft} (hlex : Pure Tryz.prog 19 [.str s] (.tup [toksPV l, ftPV f])) (hl : f.c = 0 → R.ok ⟨l, 0, 0, 0⟩) :
    Pure Tryz.prog 22 [.str s] (.tup [exPV (oneM l f).1, ftPV (oneM l f).2]) := by
  refine PC.intro tab_ok Tryz.func22 rfl (by kernel_rfl) Tryz.ntmps22 (Nat.le_of_ble_eq_true rfl) (rs := _) (congrArg Array.toList Tryz.results22) ?_
  refine PW.go tab_ok [] fun K hK => ?_
  simp only [go_sem, ↓reduceIte, reduceCtorEq, Nat.reduceBEq, Nat.reduceAdd, Nat.reduceMul, Nat.reduceSub, Nat.reduceLT, Nat.reduceLeDiff, Nat.reduceEqDiff]
  (refine hK _ _ ?_; (try clear hK); (try clear K))
  refine PW.go tab_ok [] fun K hK => ?_
  simp only [go_sem, ↓reduceIte, reduceCtorEq, Nat.reduceBEq, Nat.reduceAdd, Nat.reduceMul, Nat.reduceSub, Nat.reduceLT, Nat.reduceLeDiff, Nat.reduceEqDiff]
  refine hlex.use (Weaks.refl _) rfl (by simp [PV.clean, PVs.clean, toks_clean]; rfl) ?_
  refine PO.go tab_ok [] ?_
  simp only [ftPV, go_sem, ↓reduceIte, reduceCtorEq, Nat.reduceBEq, Nat.reduceAdd, Nat.reduceMul, Nat.reduceSub, Nat.reduceLT, Nat.reduceLeDiff, Nat.reduceEqDiff]
  (refine hK _ _ ?_; (try clear hK); (try clear K))
  refine PW.seq_k fun K0 hK0 => ?_
  refine PW.go tab_ok [] fun K hK => ?_
  simp only [go_sem, ↓reduceIte, reduceCtorEq, Nat.reduceBEq, Nat.reduceAdd, Nat.reduceMul, Nat.reduceSub, Nat.reduceLT, Nat.reduceLeDiff, Nat.reduceEqDiff]
  (refine hK _ _ ?_; (try clear hK); (try clear K))
  refine PW.cond_split (b := f.c != 0) rfl ?_ ?_ <;> intro hb
  · have hc : f.c ≠ 0 := by simpa using hb
    refine PW.draws tab_ok mixed [] [(0, []), (1, []), (2, [1]), (3, [])] (by kernel_rfl) fun K hK => ?_
    simp only [go_sem, ↓reduceIte, reduceCtorEq, Nat.reduceBEq, Nat.reduceAdd, Nat.reduceMul, Nat.reduceSub, Nat.reduceLT, Nat.reduceLeDiff, Nat.reduceEqDiff]
    (refine hK _ _ ?_; (try clear hK); (try clear K))
    refine PW.ret (Pure.finw (.inl rfl) rfl ?_ (by simp [PV.clean, PVs.clean, exPV_clean]; rfl))
    simp only [oneM, if_pos hc, resPV]
    exact Weak.tup (.cons (ex_weak _ _ _ _ _ _ _) (.cons (.refl _) .nil))
  have hc : f.c = 0 := by simpa using hb
  have hc' : ¬ f.c ≠ 0 := by simp [hc]
  refine PW.skip (hK0 _ _ ?_)
  clear hK0 K0
  have h := hl hc
  have hex := exprM_sh.ok _ h
  refine PW.go tab_ok [] fun K hK => ?_
  simp only [toksPV, go_sem, ↓reduceIte, reduceCtorEq, Nat.reduceBEq, Nat.reduceAdd, Nat.reduceMul, Nat.reduceSub, Nat.reduceLT, Nat.reduceLeDiff, Nat.reduceEqDiff]
  (refine hK _ _ ?_; (try clear hK); (try clear K))
  refine PW.go tab_ok [] fun K hK => ?_
  simp only [go_sem, ↓reduceIte, reduceCtorEq, Nat.reduceBEq, Nat.reduceAdd, Nat.reduceMul, Nat.reduceSub, Nat.reduceLT, Nat.reduceLeDiff, Nat.reduceEqDiff]
  refine (expr_pc h rfl).use 3 rfl (Weaks.refl _) rfl ?_
  refine PO.go tab_ok [] ?_
  simp only [exPV_cells, exC_len, exC_all, exC_take, exC_drop, agg_exC, go_sem, ↓reduceIte, reduceCtorEq, Nat.reduceBEq, Nat.reduceAdd, Nat.reduceMul, Nat.reduceSub, Nat.reduceLT, Nat.reduceLeDiff, Nat.reduceEqDiff]
  (refine hK _ _ ?_; (try clear hK); (try clear K))
  refine PW.seq_k fun K0 hK0 => ?_
  refine PW.go tab_ok [] fun K hK => ?_
  simp only [go_sem, ↓reduceIte, reduceCtorEq, Nat.reduceBEq, Nat.reduceAdd, Nat.reduceMul, Nat.reduceSub, Nat.reduceLT, Nat.reduceLeDiff, Nat.reduceEqDiff]
  refine (end_pc hex).use 3 rfl (Weaks.refl _) rfl ?_
  refine PO.go tab_ok [] ?_
  simp only [go_sem, ↓reduceIte, reduceCtorEq, Nat.reduceBEq, Nat.reduceAdd, Nat.reduceMul, Nat.reduceSub, Nat.reduceLT, Nat.reduceLeDiff, Nat.reduceEqDiff]
  (refine hK _ _ ?_; (try clear hK); (try clear K))
  refine PW.go tab_ok [] fun K hK => ?_
  simp only [go_sem, ↓reduceIte, reduceCtorEq, Nat.reduceBEq, Nat.reduceAdd, Nat.reduceMul, Nat.reduceSub, Nat.reduceLT, Nat.reduceLeDiff, Nat.reduceEqDiff]
  (refine hK _ _ ?_; (try clear hK); (try clear K))
  refine PW.cond_split (b := (endM (exprM ⟨l, 0, 0, 0⟩).2).c != 0) rfl ?_ ?_ <;> intro hb2
  · have hc2 : (endM (exprM ⟨l, 0, 0, 0⟩).2).c ≠ 0 := by simpa using hb2
    refine PW.draws tab_ok mixed [] [(0, []), (1, []), (2, [1]), (3, [])] (by kernel_rfl) fun K hK => ?_
    simp only [go_sem, ↓reduceIte, reduceCtorEq, Nat.reduceBEq, Nat.reduceAdd, Nat.reduceMul, Nat.reduceSub, Nat.reduceLT, Nat.reduceLeDiff, Nat.reduceEqDiff]
    (refine hK _ _ ?_; (try clear hK); (try clear K))
    refine PW.ret (Pure.finw (.inl rfl) rfl ?_ (by simp [PV.clean, PVs.clean, exPV_clean]; rfl))
    simp only [oneM, if_neg hc', if_pos hc2, resPV]
    exact Weak.tup (.cons (ex_weak _ _ _ _ _ _ _) (.cons (.refl _) .nil))
  have hc2 : ¬ (endM (exprM ⟨l, 0, 0, 0⟩).2).c ≠ 0 := by simpa using hb2
  refine PW.skip (hK0 _ _ ?_)
  clear hK0 K0
  refine PW.go tab_ok [] fun K hK => ?_
  simp only [exPV_cells, exC_len, exC_all, exC_take, exC_drop, agg_exC, go_sem, ↓reduceIte, reduceCtorEq, Nat.reduceBEq, Nat.reduceAdd, Nat.reduceMul, Nat.reduceSub, Nat.reduceLT, Nat.reduceLeDiff, Nat.reduceEqDiff]
  (refine hK _ _ ?_; (try clear hK); (try clear K))
  refine PW.ret (Pure.finw (.inl rfl) (res_cell2 (x := exPV (exprM ⟨l, 0, 0, 0⟩).1) rfl rfl (by simp only [exPV_cells, exC_len, exC_all, exC_take, exC_drop, agg_exC, go_sem, ↓reduceIte, reduceCtorEq, Nat.reduceBEq, Nat.reduceAdd, Nat.reduceMul, Nat.reduceSub, Nat.reduceLT, Nat.reduceLeDiff, Nat.reduceEqDiff]) rfl rfl rfl) ?_ (by simp [PV.clean, PVs.clean, exPV_clean]; rfl))
  simp only [oneM, if_neg hc', if_neg hc2, resPV]
  exact .refl _
end Go.Proofs.YtpepmfhemjeocaaGreatDoor
end
section
/- parse.One, over quoted alone. -/
set_option linter.unusedVariables false
set_option linter.unusedSimpArgs false
namespace Go.Proofs.YtpepmfhemjeocaaGreatDoor
open Go

theorem lexF_ok : ∀ (n : Nat) (rest : Str) (a : Nat) (acc : List Tok), rest.length < n → (lexF n rest a acc).2.c = 0 → ∃ l e, (lexF n rest a acc).1 = l ++ [e] ∧ e.kind = 6
  | 0, rest, a, acc, h, _ => by omega
  | n + 1, rest, a, acc, h, hc => by
    unfold lexF at hc ⊢
    split
    · exact ⟨acc, _, rfl, rfl⟩
    · rename_i h1
      rw [if_neg h1] at hc
      split at hc
      · rename_i h2
        exact absurd hc h2
      · rename_i h2
        rw [if_neg h2]
        refine lexF_ok n _ _ _ ?_ hc
        have := tokenM_le h1 (by simpa using h2)
        simp only [List.length_drop] at this ⊢
        omega
theorem lexM_ok {s : Str} (h : (lexM s).2.c = 0) : R.ok ⟨(lexM s).1, 0, 0, 0⟩ := by
  unfold lexM at h ⊢
  split at h
  · simp at h
  · rename_i h1
    rw [if_neg h1]
    exact lexF_ok _ _ _ _ (by omega) h
def oneS (s : Str) : Ex × Ft := oneM (lexM s).1 (lexM s).2
theorem oneS_pc {s : Str} (hq : ∀ r : Str, r ≠ [] → r.length ≤ 2000 → Pure Tryz.prog 90 [.str r] (tk3PV (quotedM r))) :
    Pure Tryz.prog 22 [.str s] (.tup [exPV (oneS s).1, ftPV (oneS s).2]) := one_pc (tokens_pc hq) lexM_ok
end Go.Proofs.YtpepmfhemjeocaaGreatDoor
end
section
/- parse.One whole. -/
set_option linter.unusedVariables false
set_option linter.unusedSimpArgs false
namespace Go.Proofs.YtpepmfhemjeocaaGreatDoor
open Go Go.Proofs Go.RowKit

theorem One_pc (s : Str) : Pure Tryz.prog 22 [.str s] (.tup [exPV (oneS s).1, ftPV (oneS s).2]) := oneS_pc fun r h1 h2 => quoted_pc h1 h2
end Go.Proofs.YtpepmfhemjeocaaGreatDoor
end
section
/- The data of statements. -/
set_option linter.unusedVariables false
set_option linter.unusedSimpArgs false
namespace Go.Proofs.YtpepmfhemjeocaaGreatDoor
open Go

attribute [go_sem] exPV_cells exC_len exC_all exC_take exC_drop agg_exC
structure Col where
  name : Str
  kind : Int
  nn : Bool
  un : Bool
structure SetX where
  name : Str
  e : Ex
structure Itm where
  k : Int
  l : List Ex
structure Stm where
  kind : Int
  table : Str
  cols : List Col
  prim : Str
  rows : List (List Vl)
  sets : List SetX
  items : List Itm
  join : Str
  on : List Ex
  wh : List Ex
  gr : List Ex
  od : List Ex
  desc : Bool
  lim : Int
def vPV (v : Vl) : PV := .agg (vC v)
def coPV (c : Col) : PV := .agg [.str c.name, .int .i64 c.kind, .bool c.nn, .bool c.un]
def rowPV (r : List Vl) : PV := .list 3 (r.map vPV) .no
def sePV (s : SetX) : PV := .agg (.str s.name :: exC s.e)
def itPV (i : Itm) : PV := .agg [.int .i64 i.k, .list 8 (exPVs i.l) .no]
def stC (s : Stm) : List PV := [.int .i64 s.kind, .str s.table, .list 4 (s.cols.map coPV) .no, .str s.prim, .list 1 (s.rows.map rowPV) .no, .list 9 (s.sets.map sePV) .no, .list 2 (s.items.map itPV) .no,
  .str s.join, .list 8 (exPVs s.on) .no, .list 8 (exPVs s.wh) .no, .list 8 (exPVs s.gr) .no, .list 8 (exPVs s.od) .no, .bool s.desc, .int .i64 s.lim]
def stPV1 (s : Stm) : PV := .agg (stC s)
def nilPV : PV := .list 0 [] .nil
/-- A statement of a kind, as it begins. -/
def stC0 (k : Int) : List PV := [.int .i64 k, .str [], nilPV, .str [], nilPV, nilPV, nilPV, .str [], nilPV, nilPV, nilPV, nilPV, .bool false, .int .i64 (-1)]
def stm0 (k : Int) : Stm := ⟨k, [], [], [], [], [], [], [], [], [], [], [], false, -1⟩

theorem v_clean (n m : Nat) (v : Vl) : PV.clean n m (vPV v) = true := rfl
theorem co_clean (n m : Nat) (c : Col) : PV.clean n m (coPV c) = true := rfl
theorem row_clean (n m : Nat) (r : List Vl) : PV.clean n m (rowPV r) = true := by simp [rowPV, PV.clean, clean_map (v_clean n m)]
theorem se_clean (n m : Nat) (s : SetX) : PV.clean n m (sePV s) = true := by simp [sePV, PV.clean, PVs.clean, PVs.clean_data (ex_clean s.e)]
theorem it_clean (n m : Nat) (i : Itm) : PV.clean n m (itPV i) = true := by simp [itPV, PV.clean, PVs.clean, PVs.clean_data (exs_clean i.l)]
theorem st_clean (n m : Nat) (s : Stm) : PVs.clean n m (stC s) = true := by
  simp [stC, PVs.clean, PV.clean, clean_map (co_clean n m), clean_map (row_clean n m), clean_map (se_clean n m), clean_map (it_clean n m), PVs.clean_data (exs_clean _)]
theorem st0_clean (n m : Nat) (k : Int) : PVs.clean n m (stC0 k) = true := rfl
theorem st_all (s : Stm) : (stC s).all PV.isCell = true := rfl

/-- All of a state is told of within it. -/
structure StOk (st : St) : Prop where
  cell : ∀ cs ∈ st.box, cs.all PV.isCell = true
  clean : ∀ cs ∈ st.box, PVs.clean st.box.length st.len.length cs = true
theorem StOk.left {st : St} (h : StOk st) : Left st st :=
  ⟨by rw [List.take_length]; exact Boxes.refl fun cs hc c hx => List.all_eq_true.1 (h.cell cs hc) c hx, List.take_length .., h.clean⟩
/-- What is behind a state's boxes is forgotten. -/
theorem StOk.left_app {box rest : List (List PV)} {len more : List Nat} (h : StOk ⟨box, len⟩) : Left ⟨box ++ rest, len ++ more⟩ ⟨box, len⟩ :=
  ⟨by simp only [List.take_left']; exact Boxes.refl fun cs hc c hx => List.all_eq_true.1 (h.cell cs hc) c hx, List.take_left' rfl, h.clean⟩
theorem StOk.mk' {box : List (List PV)} {len : List Nat} (h : ∀ cs ∈ box, cs.all PV.isCell = true ∧ PVs.clean box.length len.length cs = true) : StOk ⟨box, len⟩ := ⟨fun cs hc => (h cs hc).1, fun cs hc => (h cs hc).2⟩
end Go.Proofs.YtpepmfhemjeocaaGreatDoor
end
section
/- The parser's statements: what they are made of; a row of readings with commas. -/
set_option linter.unusedVariables false
set_option linter.unusedSimpArgs false
namespace Go.Proofs.YtpepmfhemjeocaaGreatDoor
open Go

/-! ### With a fault nothing is read -/
theorem isM_bad {ls : List Str} {r : R} (h : r.c ≠ 0) : isM ls r = -1 := by simp [isM, h]
theorem passM_bad {ls : List Str} {r : R} (h : r.c ≠ 0) : passM ls r = (-1, r) := by simp [passM, isM_bad h]
theorem hasM_bad {s : Str} {r : R} (h : r.c ≠ 0) : hasM s r = (false, r) := by simp [hasM, passM_bad h]
theorem failM_bad {e : Int} {r : R} (h : r.c ≠ 0) : failM e r = r := by simp [failM, h]
theorem mustM_bad : ∀ {ls : List Str} {r : R}, r.c ≠ 0 → mustM ls r = r
  | [], _, _ => rfl
  | l :: ls, r, h => by simp [mustM, hasM_bad h, failM_bad h, mustM_bad (ls := ls) h]
theorem takeM_bad {k : Int} {r : R} (h : r.c ≠ 0) : takeM k r = (tok0, r) := by simp [takeM, h, failM_bad h]
theorem nameM_bad {r : R} (h : r.c ≠ 0) : nameM r = ([], r) := by simp [nameM, takeM_bad h, tok0]
theorem hasM_no {s : Str} {r : R} (h : (hasM s r).1 = false) : (hasM s r).2 = r := by
  simp only [hasM, passM] at h ⊢
  exact if_neg (of_decide_eq_false h)
theorem hasM_yes {s : Str} {r : R} (h : (hasM s r).1 = true) : r.c = 0 := by
  by_cases hc : r.c = 0
  · exact hc
  · rw [hasM_bad hc] at h; cases h

/-! ### many -/
def manyM {σ : Type} (one : R × σ → R × σ) : Nat → R × σ → R × σ
  | 0, s => ((hasM [44] (one (failM 2 s.1, s.2)).1).2, (one (failM 2 s.1, s.2)).2)
  | m + 1, s => if (hasM [44] (one s).1).1 then manyM one m ((hasM [44] (one s).1).2, (one s).2) else ((hasM [44] (one s).1).2, (one s).2)
/-- A closure that reads one; I m: m more may be read. -/
structure Reads (σ : Type) (g : FuncId) (caps : List PV) (one : R × σ → R × σ) (B : σ → List (List PV)) (L : σ → List Nat) (I : Nat → R → σ → Prop) (nb nl : Nat) : Prop where
  pc : ∀ m q s, I m q s → PC Tryz.prog g caps ⟨rPV q :: B s, L s⟩ fun x st' => x = .tup [] ∧ st' = ⟨rPV (one (q, s)).1 :: B (one (q, s)).2, L (one (q, s)).2⟩
  nb : ∀ s, (B s).length = nb
  nl : ∀ s, (L s).length = nl
  ok : ∀ m q s, I m q s → q.ok
  aft : ∀ m q s, I m q s → (one (q, s)).1.ok
  good : ∀ s q, StOk ⟨rPV q :: B s, L s⟩
  next : ∀ m q s, I (m + 1) q s → I m (hasM [44] (one (q, s)).1).2 (one (q, s)).2
  fail : ∀ q s, I 0 q s → I 0 (failM 2 q) s
  bad : ∀ q s, I 0 q s → q.c ≠ 0 → (one (q, s)).1.c ≠ 0
theorem many_pc {σ : Type} {g : FuncId} {caps : List PV} {one : R × σ → R × σ} {B : σ → List (List PV)} {L : σ → List Nat} {I : Nat → R → σ → Prop} {nb nl : Nat} (h : Reads σ g caps one B L I nb nl) (most : Nat) (hm : most ≤ 100) {q0 : R} {s0 : σ} (h0 : I most q0 s0)
    (hcaps : PVs.clean (nb + 1) nl caps = true) :
    PC Tryz.prog 157 [.ref 0 0, .int .i64 (most : Int), .clo (.func g) [] caps] ⟨rPV q0 :: B s0, L s0⟩ fun x st' => x = .tup [] ∧ st' = ⟨rPV (manyM one most (q0, s0)).1 :: B (manyM one most (q0, s0)).2, L (manyM one most (q0, s0)).2⟩ := by
  refine PC.intro tab_ok Tryz.func157 rfl (by kernel_rfl) Tryz.ntmps157 (Nat.le_of_ble_eq_true rfl) (rs := _) (congrArg Array.toList Tryz.results157) ?_
  refine PW.go tab_ok [] fun K hK => ?_
  simp only [go_sem, ↓reduceIte, reduceCtorEq, Nat.reduceBEq, Nat.reduceAdd, Nat.reduceMul, Nat.reduceSub, Nat.reduceLT, Nat.reduceLeDiff, Nat.reduceEqDiff]
  (refine hK _ _ ?_; (try clear hK); (try clear K))
  refine PW.block (PW.loop (α := Nat × R × σ) (fun a => [(6, .int .i64 ((most - a.1 : Nat) : Int)), (2, .clo (.func g) [] caps), (1, .int .i64 (most : Int)), (0, .ref 0 0)]) (fun a => ⟨rPV a.2.1 :: B a.2.2, L a.2.2⟩)
    (fun a => a.1 ≤ most ∧ I a.1 a.2.1 a.2.2 ∧ manyM one a.1 a.2 = manyM one most (q0, s0)) (fun a => a.1) (most, q0, s0) ⟨Nat.le_refl _, h0, rfl⟩ ?_ rfl (fun a _ => ⟨by simp [h.nb], by simp [h.nl]⟩) ?_)
  · simp [Sub, eget]
  rintro ⟨m, q, s⟩ ⟨hml, hI, he⟩
  simp only at hml hI he
  have hb := fun s => h.nb s
  have hl := fun s => h.nl s
  refine PW.seq_k fun K1 hK1 => PW.block ?_
  refine PW.seq_k fun K0 hK0 => ?_
  refine PW.go tab_ok [] fun K hK => ?_
  simp only [go_sem, ↓reduceIte, reduceCtorEq, Nat.reduceBEq, Nat.reduceAdd, Nat.reduceMul, Nat.reduceSub, Nat.reduceLT, Nat.reduceLeDiff, Nat.reduceEqDiff]
  (refine hK _ _ ?_; (try clear hK); (try clear K))
  have hcall : ∀ {env : Env} {st : St} (q' : R), Sub env [(6, .int .i64 ((most - m : Nat) : Int)), (2, .clo (.func g) [] caps), (1, .int .i64 (most : Int)), (0, .ref 0 0)] → st = ⟨rPV q' :: B s, L s⟩ → I m q' s →
      ((hasM [44] (one (q', s)).1).1 = true → ∃ k, m = k + 1 ∧ manyM one k ((hasM [44] (one (q', s)).1).2, (one (q', s)).2) = manyM one most (q0, s0)) →
      ((hasM [44] (one (q', s)).1).1 = false → manyM one most (q0, s0) = ((hasM [44] (one (q', s)).1).2, (one (q', s)).2)) → K0 env st := by
    rintro env st q' hsub rfl hI' hyes hno
    refine hK0 _ _ (PW.less _ hsub ?_)
    clear hK0 K0
    have hI1 := h.aft m q' s hI'
    have hI2 := fun k (e : m = k + 1) => h.next k q' s (by rw [← e]; exact hI')
    refine PW.go tab_ok [] fun K hK => ?_
    simp only [go_sem, ↓reduceIte, reduceCtorEq, Nat.reduceBEq, Nat.reduceAdd, Nat.reduceMul, Nat.reduceSub, Nat.reduceLT, Nat.reduceLeDiff, Nat.reduceEqDiff]
    refine (h.pc m q' s hI').mono ?_
    rintro x st' ⟨rfl, rfl⟩
    generalize one (q', s) = z at hI1 hI2 hyes hno ⊢
    refine PO.go tab_ok [] ?_
    simp only [go_sem, ↓reduceIte, reduceCtorEq, Nat.reduceBEq, Nat.reduceAdd, Nat.reduceMul, Nat.reduceSub, Nat.reduceLT, Nat.reduceLeDiff, Nat.reduceEqDiff]
    (refine hK _ _ ?_; (try clear hK); (try clear K))
    refine PW.go tab_ok [] fun K hK => ?_
    simp only [go_sem, ↓reduceIte, reduceCtorEq, Nat.reduceBEq, Nat.reduceAdd, Nat.reduceMul, Nat.reduceSub, Nat.reduceLT, Nat.reduceLeDiff, Nat.reduceEqDiff]
    refine (has_pc (s := [44]) hI1).use 0 rfl (Weaks.refl _) rfl ?_
    refine PO.go tab_ok [] ?_
    simp only [go_sem, ↓reduceIte, reduceCtorEq, Nat.reduceBEq, Nat.reduceAdd, Nat.reduceMul, Nat.reduceSub, Nat.reduceLT, Nat.reduceLeDiff, Nat.reduceEqDiff]
    (refine hK _ _ ?_; (try clear hK); (try clear K))
    refine PW.cond_split (b := !(hasM [44] z.1).1) rfl ?_ ?_ <;> intro hc
    · have hc' : (hasM [44] z.1).1 = false := by simpa using hc
      rw [hno hc']
      refine PW.ret ⟨.inl rfl, _, .tup [], _, rfl, .refl _, (h.good _ _).left, ?_, ?_, rfl, rfl, rfl⟩
      · simp [hb]
      · simp [hl]
    · have hc' : (hasM [44] z.1).1 = true := by simpa using hc
      obtain ⟨k, rfl, hk⟩ := hyes hc'
      refine PW.skip (hK1 _ _ ?_)
      clear hK1 K1
      have hw : IntKind.i64.wrap (((most - (k + 1) : Nat) : Int) + 1) = ((most - k : Nat) : Int) := by
        rw [show ((most - (k + 1) : Nat) : Int) + 1 = ((most - k : Nat) : Int) from by omega]
        exact wrap_nat (by omega)
      refine PW.goL tab_ok [] fun K hK => ?_
      simp only [go_sem, ↓reduceIte, reduceCtorEq, Nat.reduceBEq, Nat.reduceAdd, Nat.reduceMul, Nat.reduceSub, Nat.reduceLT, Nat.reduceLeDiff, Nat.reduceEqDiff]
      (refine hK _ _ ?_; (try clear hK); (try clear K))
      refine ⟨(k, (hasM [44] z.1).2, z.2), ⟨by omega, hI2 k rfl, hk⟩, by simp, by simp [Sub, eget, hw], (h.good _ _).left, ?_⟩
      simp only [Env.clean, PV.clean, PVs.clean, List.length_cons, hb, hl, hcaps, Bool.and_true, Bool.true_and]
      simp
  refine PW.cond_split (b := ((most - m : Nat) : Int) == (most : Int)) rfl ?_ ?_ <;> intro hc
  · have h0m : m = 0 ∨ most = 0 := by
      have : ((most - m : Nat) : Int) = (most : Int) := by simpa using hc
      omega
    have hm0 : m = 0 := by omega
    subst hm0
    refine PW.goL tab_ok [] fun K hK => ?_
    simp only [go_sem, ↓reduceIte, reduceCtorEq, Nat.reduceBEq, Nat.reduceAdd, Nat.reduceMul, Nat.reduceSub, Nat.reduceLT, Nat.reduceLeDiff, Nat.reduceEqDiff]
    refine (fail_pc' (h.ok _ _ _ hI) 2).use 0 rfl (Weaks.refl _) rfl ?_
    refine PO.go tab_ok [] ?_
    simp only [go_sem, ↓reduceIte, reduceCtorEq, Nat.reduceBEq, Nat.reduceAdd, Nat.reduceMul, Nat.reduceSub, Nat.reduceLT, Nat.reduceLeDiff, Nat.reduceEqDiff]
    (refine hK _ _ ?_; (try clear hK); (try clear K))
    have hIf := h.fail q s hI
    have hbad := h.bad _ _ hIf (failM_c 2 q (by decide))
    refine hcall (failM 2 q) (by simp [Sub, eget]) rfl hIf ?_ ?_
    · intro hy
      rw [hasM_bad hbad] at hy
      cases hy
    · intro _
      rw [← he]
      rfl
  · have hm1 : ¬ m = 0 := by
      have : ¬ ((most - m : Nat) : Int) = (most : Int) := by simpa using hc
      omega
    obtain ⟨k, rfl⟩ : ∃ k, m = k + 1 := ⟨m - 1, by omega⟩
    refine PW.skip (hcall q (by simp [Sub, eget]) rfl hI ?_ ?_)
    · intro hy
      refine ⟨k, rfl, ?_⟩
      rw [← he]
      simp [manyM, hy]
    · intro hn
      rw [← he]
      simp [manyM, hn]
end Go.Proofs.YtpepmfhemjeocaaGreatDoor
end
section
/- The parser's statements: columns of tables, optional parts, items. -/
set_option linter.unusedVariables false
set_option linter.unusedSimpArgs false
namespace Go.Proofs.YtpepmfhemjeocaaGreatDoor
open Go

def coOps : List Str := [[73, 78, 84], [84, 69, 88, 84]]
def coA (r : R) : Int × R :=
  if (passM coOps (nameM r).2).1 = -1 then (1, failM 4 (passM coOps (nameM r).2).2)
  else if (passM coOps (nameM r).2).1 = 1 then (2, (passM coOps (nameM r).2).2) else (1, (passM coOps (nameM r).2).2)
def coB (r : R) : Bool × R := ((hasM sNOT (coA r).2).1, if (hasM sNOT (coA r).2).1 then mustM [sNULL] (hasM sNOT (coA r).2).2 else (hasM sNOT (coA r).2).2)
def sUNIQUE : Str := [85, 78, 73, 81, 85, 69]
def coM (r : R) : Col × R := (⟨(nameM r).1, (coA r).1, (coB r).1, (hasM sUNIQUE (coB r).2).1⟩, (hasM sUNIQUE (coB r).2).2)
theorem coA_ok {r : R} (h : r.ok) : (coA r).2.ok := by
  unfold coA
  split
  · exact failM_ok (passM_ok (nameM_ok h)) 4
  · split <;> exact passM_ok (nameM_ok h)
theorem coB_ok {r : R} (h : r.ok) : (coB r).2.ok := by
  unfold coB
  simp only
  split
  · exact mustM_ok (hasM_ok (coA_ok h))
  · exact hasM_ok (coA_ok h)
theorem coM_ok {r : R} (h : r.ok) : (coM r).2.ok := hasM_ok (coB_ok h)
theorem nameM_d (r : R) : (nameM r).2.d = r.d := takeM_d 1 r
theorem coA_d (r : R) : (coA r).2.d = r.d := by
  unfold coA
  split
  · simp only [failM_d, passM_d, nameM_d]
  · split <;> simp only [passM_d, nameM_d]
theorem coB_d (r : R) : (coB r).2.d = r.d := by
  unfold coB
  simp only
  split <;> simp only [mustM_d, hasM_d, coA_d]
theorem coM_d (r : R) : (coM r).2.d = r.d := by simp only [coM, hasM_d, coB_d]
theorem coM_bad {r : R} (h : r.c ≠ 0) : (coM r).2 = r := by
  have h1 : (coA r).2 = r := by simp [coA, nameM_bad h, passM_bad h, failM_bad h]
  have h2 : (coB r).2 = r := by simp [coB, h1, hasM_bad h]
  simp [coM, h2, hasM_bad h]

theorem columnOf_pc {r : R} (h : r.ok) : OneM Tryz.prog 156 [] r (coPV (coM r).1) (coM r).2 := by
  refine PC.intro tab_ok Tryz.func156 rfl (by kernel_rfl) Tryz.ntmps156 (Nat.le_of_ble_eq_true rfl) (rs := _) (congrArg Array.toList Tryz.results156) ?_
  refine PW.go tab_ok [] fun K hK => ?_
  simp only [go_sem, ↓reduceIte, reduceCtorEq, Nat.reduceBEq, Nat.reduceAdd, Nat.reduceMul, Nat.reduceSub, Nat.reduceLT, Nat.reduceLeDiff, Nat.reduceEqDiff]
  (refine hK _ _ ?_; (try clear hK); (try clear K))
  refine PW.go tab_ok [] fun K hK => ?_
  simp only [go_sem, ↓reduceIte, reduceCtorEq, Nat.reduceBEq, Nat.reduceAdd, Nat.reduceMul, Nat.reduceSub, Nat.reduceLT, Nat.reduceLeDiff, Nat.reduceEqDiff]
  refine (name_pc h).use 0 rfl (Weaks.refl _) rfl ?_; refine PO.go tab_ok [] ?_
  simp only [go_sem, ↓reduceIte, reduceCtorEq, Nat.reduceBEq, Nat.reduceAdd, Nat.reduceMul, Nat.reduceSub, Nat.reduceLT, Nat.reduceLeDiff, Nat.reduceEqDiff]
  (refine hK _ _ ?_; (try clear hK); (try clear K))
  refine PW.seq_k fun K0 hK0 => ?_
  refine PW.go tab_ok [] fun K hK => ?_
  simp only [go_sem, ↓reduceIte, reduceCtorEq, Nat.reduceBEq, Nat.reduceAdd, Nat.reduceMul, Nat.reduceSub, Nat.reduceLT, Nat.reduceLeDiff, Nat.reduceEqDiff]
  refine (pass_pc (ls := coOps) (by decide) (nameM_ok h)).use 0 rfl (Weaks.refl _) rfl ?_; refine PO.go tab_ok [] ?_
  simp only [go_sem, ↓reduceIte, reduceCtorEq, Nat.reduceBEq, Nat.reduceAdd, Nat.reduceMul, Nat.reduceSub, Nat.reduceLT, Nat.reduceLeDiff, Nat.reduceEqDiff]
  (refine hK _ _ ?_; (try clear hK); (try clear K))
  have hrest : ∀ {env : Env} {st : St}, Sub env [(0, .ref 0 0), (2, .ref 1 0), (3, .ref 2 0)] → st = ⟨[rPV (coA r).2, [.str [], .int .i64 0, .bool false, .bool false], [.str (nameM r).1, .int .i64 (coA r).1, .bool false, .bool false]], []⟩ → K0 env st := by
    rintro env st hsub rfl
    refine hK0 _ _ (PW.less _ hsub ?_)
    clear hK0 K0
    refine PW.seq_k fun K0 hK0 => ?_
    refine PW.go tab_ok [] fun K hK => ?_
    simp only [go_sem, ↓reduceIte, reduceCtorEq, Nat.reduceBEq, Nat.reduceAdd, Nat.reduceMul, Nat.reduceSub, Nat.reduceLT, Nat.reduceLeDiff, Nat.reduceEqDiff]
    refine (has_pc (s := sNOT) (coA_ok h)).use 0 rfl (Weaks.refl _) rfl ?_; refine PO.go tab_ok [] ?_
    simp only [go_sem, ↓reduceIte, reduceCtorEq, Nat.reduceBEq, Nat.reduceAdd, Nat.reduceMul, Nat.reduceSub, Nat.reduceLT, Nat.reduceLeDiff, Nat.reduceEqDiff]
    (refine hK _ _ ?_; (try clear hK); (try clear K))
    have hlast : ∀ {env : Env} {st : St}, Sub env [(0, .ref 0 0), (2, .ref 1 0), (3, .ref 2 0)] → st = ⟨[rPV (coB r).2, [.str [], .int .i64 0, .bool false, .bool false], [.str (nameM r).1, .int .i64 (coA r).1, .bool (coB r).1, .bool false]], []⟩ → K0 env st := by
      rintro env st hsub rfl
      refine hK0 _ _ (PW.less _ hsub ?_)
      clear hK0 K0
      refine PW.go tab_ok [] fun K hK => ?_
      simp only [go_sem, ↓reduceIte, reduceCtorEq, Nat.reduceBEq, Nat.reduceAdd, Nat.reduceMul, Nat.reduceSub, Nat.reduceLT, Nat.reduceLeDiff, Nat.reduceEqDiff]
      refine (has_pc (s := sUNIQUE) (coB_ok h)).use 0 rfl (Weaks.refl _) rfl ?_; refine PO.go tab_ok [] ?_
      simp only [go_sem, ↓reduceIte, reduceCtorEq, Nat.reduceBEq, Nat.reduceAdd, Nat.reduceMul, Nat.reduceSub, Nat.reduceLT, Nat.reduceLeDiff, Nat.reduceEqDiff]
      (refine hK _ _ ?_; (try clear hK); (try clear K))
      (repeat (refine PW.go tab_ok [] fun K hK => ?_; simp only [go_sem, ↓reduceIte, reduceCtorEq, Nat.reduceBEq, Nat.reduceAdd, Nat.reduceMul, Nat.reduceSub, Nat.reduceLT, Nat.reduceLeDiff, Nat.reduceEqDiff]; (refine hK _ _ ?_; clear hK K)))
      exact PW.ret (OneM.fin (r' := (coM r).2) (.inl rfl) rfl rfl (.refl _) rfl)
    refine PW.cond_split (b := (hasM sNOT (coA r).2).1) rfl ?_ ?_ <;> intro hb
    · refine PW.go tab_ok [] fun K hK => ?_
      simp only [go_sem, ↓reduceIte, reduceCtorEq, Nat.reduceBEq, Nat.reduceAdd, Nat.reduceMul, Nat.reduceSub, Nat.reduceLT, Nat.reduceLeDiff, Nat.reduceEqDiff]
      (refine hK _ _ ?_; (try clear hK); (try clear K))
      refine PW.goL tab_ok [] fun K hK => ?_
      simp only [go_sem, ↓reduceIte, reduceCtorEq, Nat.reduceBEq, Nat.reduceAdd, Nat.reduceMul, Nat.reduceSub, Nat.reduceLT, Nat.reduceLeDiff, Nat.reduceEqDiff]
      refine (must_pc (ls := [sNULL]) (by decide) (hasM_ok (coA_ok h))).use 0 rfl (Weaks.refl _) rfl ?_; refine PO.go tab_ok [] ?_
      simp only [go_sem, ↓reduceIte, reduceCtorEq, Nat.reduceBEq, Nat.reduceAdd, Nat.reduceMul, Nat.reduceSub, Nat.reduceLT, Nat.reduceLeDiff, Nat.reduceEqDiff]
      (refine hK _ _ ?_; (try clear hK); (try clear K))
      exact hlast (by simp [Sub, eget]) (by simp [coB, hb])
    · exact PW.skip (hlast (by simp [Sub, eget]) (by simp [coB, hb]))
  refine PW.block ?_
  refine PW.go tab_ok [] fun K hK => ?_
  simp only [go_sem, ↓reduceIte, reduceCtorEq, Nat.reduceBEq, Nat.reduceAdd, Nat.reduceMul, Nat.reduceSub, Nat.reduceLT, Nat.reduceLeDiff, Nat.reduceEqDiff]
  (refine hK _ _ ?_; (try clear hK); (try clear K))
  refine PW.cond_split (b := (passM coOps (nameM r).2).1 == -1) rfl ?_ ?_ <;> intro hb
  · have hk : (passM coOps (nameM r).2).1 = -1 := by simpa using hb
    refine PW.goL tab_ok [] fun K hK => ?_
    simp only [go_sem, ↓reduceIte, reduceCtorEq, Nat.reduceBEq, Nat.reduceAdd, Nat.reduceMul, Nat.reduceSub, Nat.reduceLT, Nat.reduceLeDiff, Nat.reduceEqDiff]
    refine (fail_pc' (passM_ok (nameM_ok h)) 4).use 0 rfl (Weaks.refl _) rfl ?_; refine PO.go tab_ok [] ?_
    simp only [go_sem, ↓reduceIte, reduceCtorEq, Nat.reduceBEq, Nat.reduceAdd, Nat.reduceMul, Nat.reduceSub, Nat.reduceLT, Nat.reduceLeDiff, Nat.reduceEqDiff]
    (refine hK _ _ ?_; (try clear hK); (try clear K))
    exact hrest (by simp [Sub, eget]) (by simp [coA, hk])
  have hk : ¬ (passM coOps (nameM r).2).1 = -1 := by simpa using hb
  refine PW.go tab_ok [] fun K hK => ?_
  simp only [go_sem, ↓reduceIte, reduceCtorEq, Nat.reduceBEq, Nat.reduceAdd, Nat.reduceMul, Nat.reduceSub, Nat.reduceLT, Nat.reduceLeDiff, Nat.reduceEqDiff]
  (refine hK _ _ ?_; (try clear hK); (try clear K))
  refine PW.cond_split (b := (passM coOps (nameM r).2).1 == 1) rfl ?_ ?_ <;> intro hb2
  · have hk2 : (passM coOps (nameM r).2).1 = 1 := by simpa using hb2
    refine PW.goL tab_ok [] fun K hK => ?_
    simp only [go_sem, ↓reduceIte, reduceCtorEq, Nat.reduceBEq, Nat.reduceAdd, Nat.reduceMul, Nat.reduceSub, Nat.reduceLT, Nat.reduceLeDiff, Nat.reduceEqDiff]
    (refine hK _ _ ?_; (try clear hK); (try clear K))
    exact hrest (by simp [Sub, eget]) (by simp [coA, hk2])
  · have hk2 : ¬ (passM coOps (nameM r).2).1 = 1 := by simpa using hb2
    exact PW.skip (hrest (by simp [Sub, eget]) (by simp [coA, hk, hk2]))

/-- An optional expression. -/
def optPV : Option Ex → PV
  | none => nilPV
  | some e => .list 8 [exPV e] .no
theorem opt_clean (x : Option Ex) : PV.clean 0 0 (optPV x) = true := by cases x <;> simp [optPV, nilPV, PV.clean, PVs.clean, exPV_clean]
theorem opt_weak (x : Option Ex) : Weak (optPV x) (.list 8 (exPVs x.toList) .no) := by
  cases x with
  | none => exact Weak.nil _ _ _
  | some e => exact .refl _
theorem opt_isCell (x : Option Ex) : (optPV x).isCell = true := by cases x <;> rfl
theorem opt_cells (x : Option Ex) : (optPV x).cells = [optPV x] := by cases x <;> rfl
theorem opt_isAgg (x : Option Ex) : (optPV x).isAgg = false := by cases x <;> rfl
attribute [go_sem] opt_isCell opt_cells opt_isAgg
def maybeM (w : Str) (r : R) : Option Ex × R := if (hasM w r).1 then (some (exprM (hasM w r).2).1, (exprM (hasM w r).2).2) else (none, (hasM w r).2)
theorem maybeM_ok {w : Str} {r : R} (h : r.ok) : (maybeM w r).2.ok := by
  unfold maybeM
  split
  · exact exprM_sh.ok _ (hasM_ok h)
  · exact hasM_ok h
theorem maybeM_d (w : Str) (r : R) : (maybeM w r).2.d = r.d := by
  unfold maybeM
  split
  · exact (exprM_sh.dd _).trans (hasM_d _ _)
  · exact hasM_d _ _
theorem maybe_pc {w : Str} {r : R} (h : r.ok) (hd : r.d = 0) : OneM Tryz.prog 161 [.str w] r (optPV (maybeM w r).1) (maybeM w r).2 := by
  refine PC.intro tab_ok Tryz.func161 rfl (by kernel_rfl) Tryz.ntmps161 (Nat.le_of_ble_eq_true rfl) (rs := _) (congrArg Array.toList Tryz.results161) ?_
  refine PW.go tab_ok [] fun K hK => ?_
  simp only [go_sem, ↓reduceIte, reduceCtorEq, Nat.reduceBEq, Nat.reduceAdd, Nat.reduceMul, Nat.reduceSub, Nat.reduceLT, Nat.reduceLeDiff, Nat.reduceEqDiff]
  (refine hK _ _ ?_; (try clear hK); (try clear K))
  refine PW.seq_k fun K0 hK0 => ?_
  refine PW.go tab_ok [] fun K hK => ?_
  simp only [go_sem, ↓reduceIte, reduceCtorEq, Nat.reduceBEq, Nat.reduceAdd, Nat.reduceMul, Nat.reduceSub, Nat.reduceLT, Nat.reduceLeDiff, Nat.reduceEqDiff]
  refine (has_pc (s := w) h).use 0 rfl (Weaks.refl _) rfl ?_; refine PO.go tab_ok [] ?_
  simp only [go_sem, ↓reduceIte, reduceCtorEq, Nat.reduceBEq, Nat.reduceAdd, Nat.reduceMul, Nat.reduceSub, Nat.reduceLT, Nat.reduceLeDiff, Nat.reduceEqDiff]
  (refine hK _ _ ?_; (try clear hK); (try clear K))
  refine PW.cond_split (b := !(hasM w r).1) rfl ?_ ?_ <;> intro hb
  · refine PW.go tab_ok [] fun K hK => ?_
    simp only [go_sem, ↓reduceIte, reduceCtorEq, Nat.reduceBEq, Nat.reduceAdd, Nat.reduceMul, Nat.reduceSub, Nat.reduceLT, Nat.reduceLeDiff, Nat.reduceEqDiff]
    (refine hK _ _ ?_; (try clear hK); (try clear K))
    have hb' : (hasM w r).1 = false := by simpa using hb
    refine PW.ret (OneM.fin (r' := (maybeM w r).2) (.inl rfl) rfl ?_ ?_ (opt_clean _))
    · simp [maybeM, hb']
    · simp only [maybeM, hb', resPV]
      exact .refl _
  · have hb' : (hasM w r).1 = true := by simpa using hb
    refine PW.skip (hK0 _ _ ?_); clear hK0 K0
    refine PW.go tab_ok [] fun K hK => ?_
    simp only [go_sem, ↓reduceIte, reduceCtorEq, Nat.reduceBEq, Nat.reduceAdd, Nat.reduceMul, Nat.reduceSub, Nat.reduceLT, Nat.reduceLeDiff, Nat.reduceEqDiff]
    refine (expr_pc (hasM_ok h) (by rw [hasM_d, hd])).use 0 rfl (Weaks.refl _) rfl ?_; refine PO.go tab_ok [] ?_
    simp only [go_sem, ↓reduceIte, reduceCtorEq, Nat.reduceBEq, Nat.reduceAdd, Nat.reduceMul, Nat.reduceSub, Nat.reduceLT, Nat.reduceLeDiff, Nat.reduceEqDiff]
    (refine hK _ _ ?_; (try clear hK); (try clear K))
    refine PW.ret (OneM.fin (r' := (maybeM w r).2) (.inl rfl) rfl ?_ ?_ (opt_clean _))
    · simp [maybeM, hb']
    · simp only [maybeM, hb', resPV]
      exact .refl _
def byM (w : Str) (r : R) : Option Ex × R := if (hasM w r).1 then (some (colM (mustM [[66, 89]] (hasM w r).2)).1, (colM (mustM [[66, 89]] (hasM w r).2)).2) else (none, (hasM w r).2)
theorem byM_ok {w : Str} {r : R} (h : r.ok) : (byM w r).2.ok := by
  unfold byM
  split
  · exact colM_sh.ok _ (mustM_ok (hasM_ok h))
  · exact hasM_ok h
theorem byM_d (w : Str) (r : R) : (byM w r).2.d = r.d := by
  unfold byM
  split
  · exact (colM_sh.dd _).trans ((mustM_d _ _).trans (hasM_d _ _))
  · exact hasM_d _ _
theorem by_pc {w : Str} {r : R} (h : r.ok) : OneM Tryz.prog 164 [.str w] r (optPV (byM w r).1) (byM w r).2 := by
  refine PC.intro tab_ok Tryz.func164 rfl (by kernel_rfl) Tryz.ntmps164 (Nat.le_of_ble_eq_true rfl) (rs := _) (congrArg Array.toList Tryz.results164) ?_
  refine PW.go tab_ok [] fun K hK => ?_
  simp only [go_sem, ↓reduceIte, reduceCtorEq, Nat.reduceBEq, Nat.reduceAdd, Nat.reduceMul, Nat.reduceSub, Nat.reduceLT, Nat.reduceLeDiff, Nat.reduceEqDiff]
  (refine hK _ _ ?_; (try clear hK); (try clear K))
  refine PW.seq_k fun K0 hK0 => ?_
  refine PW.go tab_ok [] fun K hK => ?_
  simp only [go_sem, ↓reduceIte, reduceCtorEq, Nat.reduceBEq, Nat.reduceAdd, Nat.reduceMul, Nat.reduceSub, Nat.reduceLT, Nat.reduceLeDiff, Nat.reduceEqDiff]
  refine (has_pc (s := w) h).use 0 rfl (Weaks.refl _) rfl ?_; refine PO.go tab_ok [] ?_
  simp only [go_sem, ↓reduceIte, reduceCtorEq, Nat.reduceBEq, Nat.reduceAdd, Nat.reduceMul, Nat.reduceSub, Nat.reduceLT, Nat.reduceLeDiff, Nat.reduceEqDiff]
  (refine hK _ _ ?_; (try clear hK); (try clear K))
  refine PW.cond_split (b := !(hasM w r).1) rfl ?_ ?_ <;> intro hb
  · refine PW.go tab_ok [] fun K hK => ?_
    simp only [go_sem, ↓reduceIte, reduceCtorEq, Nat.reduceBEq, Nat.reduceAdd, Nat.reduceMul, Nat.reduceSub, Nat.reduceLT, Nat.reduceLeDiff, Nat.reduceEqDiff]
    (refine hK _ _ ?_; (try clear hK); (try clear K))
    have hb' : (hasM w r).1 = false := by simpa using hb
    refine PW.ret (OneM.fin (r' := (byM w r).2) (.inl rfl) rfl ?_ ?_ (opt_clean _))
    · simp [byM, hb']
    · simp only [byM, hb', resPV]
      exact .refl _
  · have hb' : (hasM w r).1 = true := by simpa using hb
    refine PW.skip (hK0 _ _ ?_); clear hK0 K0
    refine PW.go tab_ok [] fun K hK => ?_
    simp only [go_sem, ↓reduceIte, reduceCtorEq, Nat.reduceBEq, Nat.reduceAdd, Nat.reduceMul, Nat.reduceSub, Nat.reduceLT, Nat.reduceLeDiff, Nat.reduceEqDiff]
    refine (must_pc (ls := [[66, 89]]) (by decide) (hasM_ok h)).use 0 rfl (Weaks.refl _) rfl ?_; refine PO.go tab_ok [] ?_
    simp only [go_sem, ↓reduceIte, reduceCtorEq, Nat.reduceBEq, Nat.reduceAdd, Nat.reduceMul, Nat.reduceSub, Nat.reduceLT, Nat.reduceLeDiff, Nat.reduceEqDiff]
    (refine hK _ _ ?_; (try clear hK); (try clear K))
    refine PW.go tab_ok [] fun K hK => ?_
    simp only [go_sem, ↓reduceIte, reduceCtorEq, Nat.reduceBEq, Nat.reduceAdd, Nat.reduceMul, Nat.reduceSub, Nat.reduceLT, Nat.reduceLeDiff, Nat.reduceEqDiff]
    refine (column_pc (mustM_ok (hasM_ok h))).use 0 rfl (Weaks.refl _) rfl ?_; refine PO.go tab_ok [] ?_
    simp only [go_sem, ↓reduceIte, reduceCtorEq, Nat.reduceBEq, Nat.reduceAdd, Nat.reduceMul, Nat.reduceSub, Nat.reduceLT, Nat.reduceLeDiff, Nat.reduceEqDiff]
    (refine hK _ _ ?_; (try clear hK); (try clear K))
    refine PW.ret (OneM.fin (r' := (byM w r).2) (.inl rfl) rfl ?_ ?_ (opt_clean _))
    · simp [byM, hb']
    · simp only [byM, hb', resPV]
      exact .refl _
end Go.Proofs.YtpepmfhemjeocaaGreatDoor
end
section
/- The parser's statements: rows of literals, items, and those that read no row of theirs. -/
set_option linter.unusedVariables false
set_option linter.unusedSimpArgs false
namespace Go.Proofs.YtpepmfhemjeocaaGreatDoor
open Go

/-! ### A row of literals -/
def tupOne (z : R × List Vl) : R × List Vl := (if (litM z.1).1.2 then (litM z.1).2 else failM 4 (litM z.1).2, z.2 ++ [(litM z.1).1.1])
def tupleM (r : R) : List Vl × R := ((manyM tupOne 8 (mustM [[40]] r, [])).2, mustM [[41]] (manyM tupOne 8 (mustM [[40]] r, [])).1)
def tupB (s : List Vl) : List (List PV) := [[.ref 0 0], [.list 3 (s.map vPV) (.own 0)]]
theorem tupOne_ok {q : R} (h : q.ok) (s : List Vl) : (tupOne (q, s)).1.ok := by
  unfold tupOne
  simp only
  split
  · exact litM_ok h
  · exact failM_ok (litM_ok h) 4
theorem litM_bad {r : R} (h : r.c ≠ 0) : litM r = ((v0, false), r) := by simp [litM, h]
theorem vs_len (s : List Vl) : (s.map vPV).length = s.length := by simp
theorem litM_cells (v : Vl) : (vPV v).cells = vC v := rfl
theorem tupleIn_pc {q : R} {s : List Vl} (h : q.ok) (hs : s.length ≤ 1000) : PC Tryz.prog 182 [.ref 1 0, .ref 2 0] ⟨rPV q :: tupB s, [s.length]⟩ fun x st' => x = .tup [] ∧ st' = ⟨rPV (tupOne (q, s)).1 :: tupB (tupOne (q, s)).2, [(tupOne (q, s)).2.length]⟩ := by
  unfold tupB
  refine PC.intro tab_ok Tryz.func182 rfl (by kernel_rfl) Tryz.ntmps182 (Nat.le_of_ble_eq_true rfl) (rs := _) (congrArg Array.toList Tryz.results182) ?_
  refine PW.go tab_ok [] fun K hK => ?_
  simp only [go_sem, ↓reduceIte, reduceCtorEq, Nat.reduceBEq, Nat.reduceAdd, Nat.reduceMul, Nat.reduceSub, Nat.reduceLT, Nat.reduceLeDiff, Nat.reduceEqDiff]
  refine (literal_pc h).use 0 rfl (Weaks.refl _) rfl ?_
  refine PO.go tab_ok [] ?_
  simp only [vC, go_sem, ↓reduceIte, reduceCtorEq, Nat.reduceBEq, Nat.reduceAdd, Nat.reduceMul, Nat.reduceSub, Nat.reduceLT, Nat.reduceLeDiff, Nat.reduceEqDiff]
  (refine hK _ _ ?_; (try clear hK); (try clear K))
  have hok := litM_ok h
  have hone : tupOne (q, s) = (if (litM q).1.2 then (litM q).2 else failM 4 (litM q).2, s ++ [(litM q).1.1]) := rfl
  generalize litM q = z at hok hone ⊢
  refine PW.seq_k fun K0 hK0 => ?_
  refine PW.go tab_ok [] fun K hK => ?_
  simp only [go_sem, ↓reduceIte, reduceCtorEq, Nat.reduceBEq, Nat.reduceAdd, Nat.reduceMul, Nat.reduceSub, Nat.reduceLT, Nat.reduceLeDiff, Nat.reduceEqDiff]
  (refine hK _ _ ?_; (try clear hK); (try clear K))
  have hlast : ∀ {env : Env} {st : St} (q' : R), Sub env [(1, .ref 2 0), (2, .ref 3 0)] → st = ⟨[rPV q', [.ref 0 0], [.list 3 (s.map vPV) (.own 0)], [.int .i64 z.1.1.k, .int .i64 z.1.1.n, .str z.1.1.t]], [s.length]⟩ → tupOne (q, s) = (q', s ++ [z.1.1]) → K0 env st := by
    rintro env st q' hsub rfl he
    refine hK0 _ _ (PW.less _ hsub ?_)
    clear hK0 K0
    have hfit : (s.length + 1) * 32 ≤ 140737488355328 := by omega
    have hmax : s.length + 1 ≤ maxLen := by unfold maxLen; omega
    refine PW.goL tab_ok [] fun K hK => ?_
    simp only [hfit, hmax, go_sem, ↓reduceIte, reduceCtorEq, Nat.reduceBEq, Nat.reduceAdd, Nat.reduceMul, Nat.reduceSub, Nat.reduceLT, Nat.reduceLeDiff, Nat.reduceEqDiff]
    (refine hK _ _ ?_; (try clear hK); (try clear K))
    refine ⟨.inr rfl, _, .tup [], ⟨rPV q' :: tupB (s ++ [z.1.1]), [s.length + 1]⟩, rfl, .refl _, ?_, ?_, ?_, rfl, rfl, ?_⟩
    · refine ⟨?_, rfl, ?_⟩
      · simp [tupB, Weaks.refl, vPV, vC, PV.isCell, r_all, rPV, rdPV]
      · simp [tupB, PVs.clean, PV.clean, PVs.clean_data (r_clean q'), clean_map (v_clean 3 1)]
        rw [PVs.clean_append, clean_map (v_clean 3 1)]
        rfl
    · simp [tupB]
    · simp
    · rw [he]
      simp [tupB]
  refine PW.cond_split (b := !z.1.2) rfl ?_ ?_ <;> intro hb
  · have hz : z.1.2 = false := by simpa using hb
    refine PW.goL tab_ok [] fun K hK => ?_
    simp only [go_sem, ↓reduceIte, reduceCtorEq, Nat.reduceBEq, Nat.reduceAdd, Nat.reduceMul, Nat.reduceSub, Nat.reduceLT, Nat.reduceLeDiff, Nat.reduceEqDiff]
    refine (fail_pc' hok 4).use 0 rfl (Weaks.refl _) rfl ?_; refine PO.go tab_ok [] ?_
    simp only [go_sem, ↓reduceIte, reduceCtorEq, Nat.reduceBEq, Nat.reduceAdd, Nat.reduceMul, Nat.reduceSub, Nat.reduceLT, Nat.reduceLeDiff, Nat.reduceEqDiff]
    (refine hK _ _ ?_; (try clear hK); (try clear K))
    exact hlast (failM 4 z.2) (by simp [Sub, eget]) rfl (by rw [hone, hz]; rfl)
  · have hz : z.1.2 = true := by simpa using hb
    exact PW.skip (hlast z.2 (by simp [Sub, eget]) rfl (by rw [hone, hz]; rfl))
theorem tup_reads : Reads (List Vl) 182 [.ref 1 0, .ref 2 0] tupOne tupB (fun s => [s.length]) (fun m q s => q.ok ∧ s.length + m ≤ 100) 2 1 where
  pc := fun m q s h => tupleIn_pc h.1 (by omega)
  nb := fun _ => rfl
  nl := fun _ => rfl
  ok := fun m q s h => h.1
  aft := fun m q s h => tupOne_ok h.1 s
  good := fun s q => by
    refine StOk.mk' fun cs hc => ?_
    simp only [tupB, List.mem_cons, List.not_mem_nil, or_false] at hc
    rcases hc with rfl | rfl | rfl
    · exact ⟨r_all q, PVs.clean_data (r_clean q)⟩
    · exact ⟨rfl, rfl⟩
    · refine ⟨rfl, ?_⟩
      simp only [PVs.clean, PV.clean, clean_map (v_clean _ _)]
      rfl
  next := fun m q s h => ⟨hasM_ok (tupOne_ok h.1 s), by simp [tupOne]; omega⟩
  fail := fun q s h => ⟨failM_ok h.1 2, h.2⟩
  bad := fun q s h hc => by simp [tupOne, litM_bad hc, failM_bad hc, hc]
theorem many_ok {σ : Type} {one : R × σ → R × σ} (h1 : ∀ q s, q.ok → (one (q, s)).1.ok) : ∀ (m : Nat) (q : R) (s : σ), q.ok → (manyM one m (q, s)).1.ok
  | 0, q, s, h => hasM_ok (h1 _ _ (failM_ok h 2))
  | m + 1, q, s, h => by
    unfold manyM
    split
    · exact many_ok h1 m _ _ (hasM_ok (h1 _ _ h))
    · exact hasM_ok (h1 _ _ h)
theorem many_d {σ : Type} {one : R × σ → R × σ} (h1 : ∀ q s, (one (q, s)).1.d = q.d) : ∀ (m : Nat) (q : R) (s : σ), (manyM one m (q, s)).1.d = q.d
  | 0, q, s => by
    show (hasM [44] (one (failM 2 q, s)).1).2.d = q.d
    rw [hasM_d, h1, failM_d]
  | m + 1, q, s => by
    unfold manyM
    split
    · rw [many_d h1 m _ _, hasM_d, h1]
    · rw [hasM_d, h1]
theorem tupOne_d (q : R) (s : List Vl) : (tupOne (q, s)).1.d = q.d := by
  unfold tupOne
  simp only
  split
  · exact litM_d q
  · rw [failM_d, litM_d]
theorem tupleM_ok {r : R} (h : r.ok) : (tupleM r).2.ok := mustM_ok (many_ok (fun q s h => tupOne_ok h s) 8 _ _ (mustM_ok h))
theorem tupleM_d (r : R) : (tupleM r).2.d = r.d := by simp only [tupleM, mustM_d, many_d tupOne_d]
theorem tupleM_bad {r : R} (h : r.c ≠ 0) : (tupleM r).2 = r := by
  have h1 : ∀ s, tupOne (r, s) = (r, s ++ [v0]) := fun s => by simp [tupOne, litM_bad h, failM_bad h]
  have h2 : manyM tupOne 8 (r, []) = (r, [v0]) := by simp [manyM, h1, hasM_bad h]
  simp [tupleM, mustM_bad h, h2]
theorem tuple_pc {r : R} (h : r.ok) : OneM Tryz.prog 159 [] r (rowPV (tupleM r).1) (tupleM r).2 := by
  refine PC.intro tab_ok Tryz.func159 rfl (by kernel_rfl) Tryz.ntmps159 (Nat.le_of_ble_eq_true rfl) (rs := _) (congrArg Array.toList Tryz.results159) ?_
  (repeat (refine PW.go tab_ok [] fun K hK => ?_; simp only [go_sem, ↓reduceIte, reduceCtorEq, Nat.reduceBEq, Nat.reduceAdd, Nat.reduceMul, Nat.reduceSub, Nat.reduceLT, Nat.reduceLeDiff, Nat.reduceEqDiff]; (refine hK _ _ ?_; clear hK K)))
  refine PW.go tab_ok [] fun K hK => ?_
  simp only [go_sem, ↓reduceIte, reduceCtorEq, Nat.reduceBEq, Nat.reduceAdd, Nat.reduceMul, Nat.reduceSub, Nat.reduceLT, Nat.reduceLeDiff, Nat.reduceEqDiff]
  refine (must_pc (ls := [[40]]) (by decide) h).use 0 rfl (Weaks.refl _) rfl ?_; refine PO.go tab_ok [] ?_
  simp only [go_sem, ↓reduceIte, reduceCtorEq, Nat.reduceBEq, Nat.reduceAdd, Nat.reduceMul, Nat.reduceSub, Nat.reduceLT, Nat.reduceLeDiff, Nat.reduceEqDiff]
  (refine hK _ _ ?_; (try clear hK); (try clear K))
  have h1 := mustM_ok (ls := [[40]]) h
  have hz : tupleM r = ((manyM tupOne 8 (mustM [[40]] r, [])).2, mustM [[41]] (manyM tupOne 8 (mustM [[40]] r, [])).1) := rfl
  have hok := many_ok (fun q s h => tupOne_ok h s) 8 _ ([] : List Vl) h1
  generalize mustM [[40]] r = q at h1 hz hok ⊢
  refine PW.adopt ?_
  refine PW.forget [(3, .ref 2 0), (1, .ref 1 0), (0, .ref 0 0)] ⟨rPV q :: tupB [], [0]⟩ (by simp [Sub, eget]) ⟨?_, rfl, (tup_reads.good [] q).clean⟩ rfl (Nat.le_refl _) (Nat.le_refl _) ?_
  · simp [tupB, Weaks.refl, Weak.nil, PV.isCell, r_all, rPV, rdPV]
  refine PW.go tab_ok [] fun K hK => ?_
  simp only [tupB, go_sem, ↓reduceIte, reduceCtorEq, Nat.reduceBEq, Nat.reduceAdd, Nat.reduceMul, Nat.reduceSub, Nat.reduceLT, Nat.reduceLeDiff, Nat.reduceEqDiff]
  refine (many_pc tup_reads 8 (by omega) (q0 := q) (s0 := []) ⟨h1, by simp⟩ rfl).mono ?_
  rintro x st' ⟨rfl, rfl⟩
  generalize manyM tupOne 8 (q, []) = z at hz hok ⊢
  refine PO.go tab_ok [] ?_
  simp only [tupB, go_sem, ↓reduceIte, reduceCtorEq, Nat.reduceBEq, Nat.reduceAdd, Nat.reduceMul, Nat.reduceSub, Nat.reduceLT, Nat.reduceLeDiff, Nat.reduceEqDiff]
  (refine hK _ _ ?_; (try clear hK); (try clear K))
  refine PW.go tab_ok [] fun K hK => ?_
  simp only [go_sem, ↓reduceIte, reduceCtorEq, Nat.reduceBEq, Nat.reduceAdd, Nat.reduceMul, Nat.reduceSub, Nat.reduceLT, Nat.reduceLeDiff, Nat.reduceEqDiff]
  refine (must_pc (ls := [[41]]) (by decide) hok).use 0 rfl (Weaks.refl _) rfl ?_; refine PO.go tab_ok [] ?_
  simp only [go_sem, ↓reduceIte, reduceCtorEq, Nat.reduceBEq, Nat.reduceAdd, Nat.reduceMul, Nat.reduceSub, Nat.reduceLT, Nat.reduceLeDiff, Nat.reduceEqDiff]
  (refine hK _ _ ?_; (try clear hK); (try clear K))
  (repeat (refine PW.go tab_ok [] fun K hK => ?_; simp only [go_sem, ↓reduceIte, reduceCtorEq, Nat.reduceBEq, Nat.reduceAdd, Nat.reduceMul, Nat.reduceSub, Nat.reduceLT, Nat.reduceLeDiff, Nat.reduceEqDiff]; (refine hK _ _ ?_; clear hK K)))
  refine PW.ret (OneM.fin (r' := (tupleM r).2) (.inl rfl) rfl ?_ ?_ (row_clean 0 0 _))
  · rw [hz]
  · rw [hz]
    exact Weak.no _ _ _
end Go.Proofs.YtpepmfhemjeocaaGreatDoor
end
section
/- The parser's statements: items; drop, remove. -/
set_option linter.unusedVariables false
set_option linter.unusedSimpArgs false
namespace Go.Proofs.YtpepmfhemjeocaaGreatDoor
open Go

def itOps : List Str := [[67, 79, 85, 78, 84], [83, 85, 77], [77, 73, 78], [77, 65, 88], [42]]
def itArg (k : Int) (r : R) : Itm × R := (⟨k, [(exprM r).1]⟩, mustM [[41]] (exprM r).2)
def itemM (r : R) : Itm × R :=
  if (passM itOps r).1 < 0 then (⟨2, [(exprM (passM itOps r).2).1]⟩, (exprM (passM itOps r).2).2)
  else if (passM itOps r).1 = 4 then (⟨1, []⟩, (passM itOps r).2)
  else if (passM itOps r).1 > 0 then itArg (4 + (passM itOps r).1) (mustM [[40]] (passM itOps r).2)
  else if (hasM [42] (mustM [[40]] (passM itOps r).2)).1 then (⟨3, []⟩, mustM [[41]] (hasM [42] (mustM [[40]] (passM itOps r).2)).2)
  else itArg (4 + (passM itOps r).1) (hasM [42] (mustM [[40]] (passM itOps r).2)).2
theorem itemM_ok {r : R} (h : r.ok) : (itemM r).2.ok := by
  have h1 := passM_ok (ls := itOps) h
  have h2 := mustM_ok (ls := [[40]]) h1
  unfold itemM
  (repeat' split)
  · exact exprM_sh.ok _ h1
  · exact h1
  · exact mustM_ok (exprM_sh.ok _ h2)
  · exact mustM_ok (hasM_ok h2)
  · exact mustM_ok (exprM_sh.ok _ (hasM_ok h2))
theorem itemM_d (r : R) : (itemM r).2.d = r.d := by
  unfold itemM
  (repeat' split) <;> simp only [itArg, exprM_sh.dd, mustM_d, hasM_d, passM_d]
theorem it_weak (k : Int) (l : List Ex) (t : Tk) : Weak (.agg [.int .i64 k, .list 8 (exPVs l) t]) (itPV ⟨k, l⟩) :=
  Weak.agg (.cons (.refl _) (.cons (Weak.no _ _ _) .nil)) (by simp [PV.isCell])
theorem it_weak0 (k : Int) : Weak (.agg [.int .i64 k, .list 0 [] .nil]) (itPV ⟨k, []⟩) :=
  Weak.agg (.cons (.refl _) (.cons (Weak.nil _ _ _) .nil)) (by simp [exPVs, PV.isCell])
theorem item_pc {r : R} (h : r.ok) (hd : r.d = 0) : OneM Tryz.prog 163 [] r (itPV (itemM r).1) (itemM r).2 := by
  have h1 := passM_ok (ls := itOps) h
  have hd1 : (passM itOps r).2.d = 0 := by rw [passM_d, hd]
  have hlt : (passM itOps r).1 < 5 := passM_lt_len itOps r
  have hz : itemM r = itemM r := rfl
  conv at hz => rhs; unfold itemM
  refine PC.intro tab_ok Tryz.func163 rfl (by kernel_rfl) Tryz.ntmps163 (Nat.le_of_ble_eq_true rfl) (rs := _) (congrArg Array.toList Tryz.results163) ?_
  (repeat (refine PW.go tab_ok [] fun K hK => ?_; simp only [go_sem, ↓reduceIte, reduceCtorEq, Nat.reduceBEq, Nat.reduceAdd, Nat.reduceMul, Nat.reduceSub, Nat.reduceLT, Nat.reduceLeDiff, Nat.reduceEqDiff]; (refine hK _ _ ?_; clear hK K)))
  refine PW.go tab_ok [] fun K hK => ?_
  simp only [go_sem, ↓reduceIte, reduceCtorEq, Nat.reduceBEq, Nat.reduceAdd, Nat.reduceMul, Nat.reduceSub, Nat.reduceLT, Nat.reduceLeDiff, Nat.reduceEqDiff]
  refine (pass_pc (ls := itOps) (by decide) h).use 0 rfl (Weaks.refl _) rfl ?_; refine PO.go tab_ok [] ?_
  simp only [go_sem, ↓reduceIte, reduceCtorEq, Nat.reduceBEq, Nat.reduceAdd, Nat.reduceMul, Nat.reduceSub, Nat.reduceLT, Nat.reduceLeDiff, Nat.reduceEqDiff]
  (refine hK _ _ ?_; (try clear hK); (try clear K))
  generalize passM itOps r = z at h1 hd1 hlt hz ⊢
  obtain ⟨k, q⟩ := z
  simp only at h1 hd1 hlt hz ⊢
  refine PW.seq_k fun K0 hK0 => ?_
  refine PW.block ?_
  refine PW.go tab_ok [] fun K hK => ?_
  simp only [go_sem, ↓reduceIte, reduceCtorEq, Nat.reduceBEq, Nat.reduceAdd, Nat.reduceMul, Nat.reduceSub, Nat.reduceLT, Nat.reduceLeDiff, Nat.reduceEqDiff]
  (refine hK _ _ ?_; (try clear hK); (try clear K))
  refine PW.cond_split (b := decide (k < 0)) rfl ?_ ?_ <;> intro hb
  · have hk : k < 0 := by simpa using hb
    rw [if_pos hk] at hz
    refine PW.go tab_ok [] fun K hK => ?_
    simp only [go_sem, ↓reduceIte, reduceCtorEq, Nat.reduceBEq, Nat.reduceAdd, Nat.reduceMul, Nat.reduceSub, Nat.reduceLT, Nat.reduceLeDiff, Nat.reduceEqDiff]
    refine (expr_pc h1 hd1).use 0 rfl (Weaks.refl _) rfl ?_; refine PO.go tab_ok [] ?_
    simp only [go_sem, ↓reduceIte, reduceCtorEq, Nat.reduceBEq, Nat.reduceAdd, Nat.reduceMul, Nat.reduceSub, Nat.reduceLT, Nat.reduceLeDiff, Nat.reduceEqDiff]
    (refine hK _ _ ?_; (try clear hK); (try clear K))
    refine PW.ret (OneM.fin (r' := (itemM r).2) (.inl rfl) rfl ?_ ?_ (it_clean 0 0 _))
    · rw [hz]
    · rw [hz]
      exact it_weak 2 [(exprM q).1] .no
  have hk : ¬ k < 0 := by simpa using hb
  rw [if_neg hk] at hz
  refine PW.go tab_ok [] fun K hK => ?_
  simp only [go_sem, ↓reduceIte, reduceCtorEq, Nat.reduceBEq, Nat.reduceAdd, Nat.reduceMul, Nat.reduceSub, Nat.reduceLT, Nat.reduceLeDiff, Nat.reduceEqDiff]
  (refine hK _ _ ?_; (try clear hK); (try clear K))
  refine PW.cond_split (b := k == 4) rfl ?_ ?_ <;> intro hb2
  · have hk2 : k = 4 := by simpa using hb2
    rw [if_pos hk2] at hz
    (repeat (refine PW.go tab_ok [] fun K hK => ?_; simp only [go_sem, ↓reduceIte, reduceCtorEq, Nat.reduceBEq, Nat.reduceAdd, Nat.reduceMul, Nat.reduceSub, Nat.reduceLT, Nat.reduceLeDiff, Nat.reduceEqDiff]; (refine hK _ _ ?_; clear hK K)))
    refine PW.ret (OneM.fin (r' := (itemM r).2) (.inl rfl) rfl ?_ ?_ (it_clean 0 0 _))
    · rw [hz]
    · rw [hz]
      exact it_weak0 1
  have hk2 : ¬ k = 4 := by simpa using hb2
  rw [if_neg hk2] at hz
  refine PW.skip (hK0 _ _ ?_); clear hK0 K0
  have hw : IntKind.i64.wrap (4 + k) = 4 + k := wrap_small (by omega) (by omega)
  refine PW.go tab_ok [] fun K hK => ?_
  simp only [go_sem, ↓reduceIte, reduceCtorEq, Nat.reduceBEq, Nat.reduceAdd, Nat.reduceMul, Nat.reduceSub, Nat.reduceLT, Nat.reduceLeDiff, Nat.reduceEqDiff]
  refine (must_pc (ls := [[40]]) (by decide) h1).use 0 rfl (Weaks.refl _) rfl ?_; refine PO.go tab_ok [] ?_
  simp only [go_sem, ↓reduceIte, reduceCtorEq, Nat.reduceBEq, Nat.reduceAdd, Nat.reduceMul, Nat.reduceSub, Nat.reduceLT, Nat.reduceLeDiff, Nat.reduceEqDiff]
  (refine hK _ _ ?_; (try clear hK); (try clear K))
  have h2 := mustM_ok (ls := [[40]]) h1
  have hd2 : (mustM [[40]] q).d = 0 := by rw [mustM_d, hd1]
  generalize mustM [[40]] q = p at h2 hd2 hz ⊢
  (repeat (refine PW.go tab_ok [] fun K hK => ?_; simp only [go_sem, ↓reduceIte, reduceCtorEq, Nat.reduceBEq, Nat.reduceAdd, Nat.reduceMul, Nat.reduceSub, Nat.reduceLT, Nat.reduceLeDiff, Nat.reduceEqDiff]; (refine hK _ _ ?_; clear hK K)))
  refine PW.seq_k fun K0 hK0 => ?_
  have hlast : ∀ {env : Env} {st : St} (p' : R) (k' : Int) (cs : List PV), Sub env [(0, .ref 0 0), (2, .ref 1 0), (4, .ref 2 0)] → st = ⟨[rPV p', [.int .i64 0, .list 0 [] .nil], cs], []⟩ → p'.ok → cs.length = 2 → cs.all PV.isCell = true → (itemM r).2 = mustM [[41]] p' → Weak (.agg cs) (itPV (itemM r).1) → K0 env st := by
    rintro env st p' k' cs hsub rfl hp' hl hall he hwk
    obtain ⟨c1, c2, rfl⟩ : ∃ c1 c2, cs = [c1, c2] := by
      match cs, hl with
      | [c1, c2], _ => exact ⟨c1, c2, rfl⟩
    simp only [List.all_cons, List.all_nil, Bool.and_true, Bool.and_eq_true] at hall
    refine hK0 _ _ (PW.less _ hsub ?_)
    clear hK0 K0
    refine PW.go tab_ok [] fun K hK => ?_
    simp only [go_sem, ↓reduceIte, reduceCtorEq, Nat.reduceBEq, Nat.reduceAdd, Nat.reduceMul, Nat.reduceSub, Nat.reduceLT, Nat.reduceLeDiff, Nat.reduceEqDiff]
    refine (must_pc (ls := [[41]]) (by decide) hp').use 0 rfl (Weaks.refl _) rfl ?_; refine PO.go tab_ok [] ?_
    simp only [go_sem, ↓reduceIte, reduceCtorEq, Nat.reduceBEq, Nat.reduceAdd, Nat.reduceMul, Nat.reduceSub, Nat.reduceLT, Nat.reduceLeDiff, Nat.reduceEqDiff]
    (refine hK _ _ ?_; (try clear hK); (try clear K))
    refine PW.go tab_ok [] fun K hK => ?_
    simp only [hall.1, hall.2, Bool.and_self, go_sem, ↓reduceIte, reduceCtorEq, Nat.reduceBEq, Nat.reduceAdd, Nat.reduceMul, Nat.reduceSub, Nat.reduceLT, Nat.reduceLeDiff, Nat.reduceEqDiff]
    (refine hK _ _ ?_; (try clear hK); (try clear K))
    refine PW.ret (OneM.fin (r' := (itemM r).2) (.inl rfl) rfl ?_ hwk (it_clean 0 0 _))
    rw [he]
  by_cases hk3 : k > 0
  · rw [if_pos hk3] at hz
    have hk3' : decide (k > 0) = true := by simpa using hk3
    refine PW.go tab_ok [] fun K hK => ?_
    simp only [hk3', go_sem, ↓reduceIte, reduceCtorEq, Nat.reduceBEq, Nat.reduceAdd, Nat.reduceMul, Nat.reduceSub, Nat.reduceLT, Nat.reduceLeDiff, Nat.reduceEqDiff]
    (refine hK _ _ ?_; (try clear hK); (try clear K))
    refine PW.cond_split (b := true) rfl ?_ ?_ <;> intro hb3
    · refine PW.goL tab_ok [] fun K hK => ?_
      simp only [hw, go_sem, ↓reduceIte, reduceCtorEq, Nat.reduceBEq, Nat.reduceAdd, Nat.reduceMul, Nat.reduceSub, Nat.reduceLT, Nat.reduceLeDiff, Nat.reduceEqDiff]
      refine (expr_pc (r := p) h2 hd2).use 0 rfl (Weaks.refl _) rfl ?_; refine PO.go tab_ok [] ?_
      simp only [go_sem, ↓reduceIte, reduceCtorEq, Nat.reduceBEq, Nat.reduceAdd, Nat.reduceMul, Nat.reduceSub, Nat.reduceLT, Nat.reduceLeDiff, Nat.reduceEqDiff]
      (refine hK _ _ ?_; (try clear hK); (try clear K))
      exact hlast (exprM p).2 0 _ (by simp [Sub, eget]) rfl (exprM_sh.ok _ h2) rfl rfl (by rw [hz]; rfl) (by rw [hz]; exact it_weak (4 + k) [(exprM p).1] .no)
    · cases hb3
  have hk3' : decide (k > 0) = false := by simpa using hk3
  rw [if_neg hk3] at hz
  refine PW.go tab_ok [] fun K hK => ?_
  simp only [hk3', go_sem, ↓reduceIte, reduceCtorEq, Nat.reduceBEq, Nat.reduceAdd, Nat.reduceMul, Nat.reduceSub, Nat.reduceLT, Nat.reduceLeDiff, Nat.reduceEqDiff]
  refine (has_pc (s := [42]) h2).use 0 rfl (Weaks.refl _) rfl ?_; refine PO.go tab_ok [] ?_
  simp only [go_sem, ↓reduceIte, reduceCtorEq, Nat.reduceBEq, Nat.reduceAdd, Nat.reduceMul, Nat.reduceSub, Nat.reduceLT, Nat.reduceLeDiff, Nat.reduceEqDiff]
  (refine hK _ _ ?_; (try clear hK); (try clear K))
  refine PW.cond_split (b := !(hasM [42] p).1) rfl ?_ ?_ <;> intro hb3
  · have hh : ¬ (hasM [42] p).1 = true := by simpa using hb3
    have h3 := hasM_ok (s := [42]) h2
    have hd3 : (hasM [42] p).2.d = 0 := by rw [hasM_d, hd2]
    rw [if_neg hh] at hz
    refine PW.goL tab_ok [] fun K hK => ?_
    simp only [hw, go_sem, ↓reduceIte, reduceCtorEq, Nat.reduceBEq, Nat.reduceAdd, Nat.reduceMul, Nat.reduceSub, Nat.reduceLT, Nat.reduceLeDiff, Nat.reduceEqDiff]
    refine (expr_pc (r := (hasM [42] p).2) h3 hd3).use 0 rfl (Weaks.refl _) rfl ?_; refine PO.go tab_ok [] ?_
    simp only [go_sem, ↓reduceIte, reduceCtorEq, Nat.reduceBEq, Nat.reduceAdd, Nat.reduceMul, Nat.reduceSub, Nat.reduceLT, Nat.reduceLeDiff, Nat.reduceEqDiff]
    (refine hK _ _ ?_; (try clear hK); (try clear K))
    exact hlast (exprM (hasM [42] p).2).2 0 _ (by simp [Sub, eget]) rfl (exprM_sh.ok _ h3) rfl rfl (by rw [hz]; rfl) (by rw [hz]; exact it_weak (4 + k) [(exprM (hasM [42] p).2).1] .no)
  · have hh : (hasM [42] p).1 = true := by simpa using hb3
    rw [if_pos hh] at hz
    exact PW.skip (hlast (hasM [42] p).2 0 _ (by simp [Sub, eget]) rfl (hasM_ok h2) rfl rfl (by rw [hz]) (by rw [hz]; exact it_weak0 3))

/-! ### A method that fills a statement -/
def TwoS (f : FuncId) (r : R) (k : Int) (S : Stm) (r' : R) : Prop := PC Tryz.prog f [.ref 0 0, .ref 1 0] ⟨[rPV r, stC0 k], []⟩ fun x st' => x = .tup [] ∧ st' = ⟨[rPV r', stC S], []⟩
theorem TwoS.fin {tt : TTab} {cs : List PV} {rest : List (List PV)} {len : List Nat} {env : Env} {e : Exit} {a b : List PV} {r' : R} {S : Stm} (he : e = .ret ∨ e = .normal) (hw : Weaks cs (stC S)) :
    Ends tt [] ⟨[a, b], []⟩ (fun x st' => x = .tup [] ∧ st' = ⟨[rPV r', stC S], []⟩) e env ⟨rPV r' :: cs :: rest, len⟩ := by
  refine ⟨he, [], .tup [], ⟨[rPV r', stC S], []⟩, rfl, .refl _, ⟨?_, by simp, ?_⟩, by simp, by simp, rfl, rfl, rfl⟩
  · simp only [List.length_cons, List.length_nil, List.take_succ_cons, List.take_zero, boxes_cons, boxes_nil, and_true]
    exact ⟨Weaks.refl _, fun c hc => List.all_eq_true.1 (r_all r') c hc, hw, fun c hc => List.all_eq_true.1 (st_all S) c hc⟩
  · intro c h
    simp only [List.mem_cons, List.not_mem_nil, or_false] at h
    rcases h with rfl | rfl
    · exact PVs.clean_data (r_clean r')
    · exact st_clean _ _ S
theorem TwoS.use {f : FuncId} {r r' : R} {k : Int} {S : Stm} (h : TwoS f r k S r') (i j : Nat) (hij : i ≠ j) {st : St} {K : PV → St → Prop} (hi : st.box[i]? = some (rPV r)) (hj : st.box[j]? = some (stC0 k))
    (hk : K (.tup []) { st with box := (st.box.set i (rPV r')).set j (stC S) }) : PC Tryz.prog f [.ref i 0, .ref j 0] st K := by
  refine PC.use h [i, j] [] (by simpa using hij) rfl ⟨by rw [PVs.ren_data (r_clean r)]; exact hi, by rw [PVs.ren_data (st0_clean 0 0 k)]; exact hj, trivial⟩ trivial ?_ ?_ ?_ ?_
  · exact .cons (by simp [PV.ren, out]) (.cons (by simp [PV.ren, out]) .nil)
  · rfl
  · intro cs' h'
    simp only [List.mem_cons, List.not_mem_nil, or_false] at h'
    rcases h' with rfl | rfl
    · exact PVs.clean_data (r_clean r)
    · exact st0_clean _ _ k
  · rintro r0 st1 ⟨rfl, rfl⟩ _ _
    simpa [merge, mergeL, setAll, PVs.ren_data (r_clean r'), PVs.ren_data (st_clean 0 0 S), PV.ren, PVs.ren] using hk
def dropM (r : R) : Stm × R := ({ stm0 2 with table := (nameM (mustM [[84, 65, 66, 76, 69]] r)).1 }, (nameM (mustM [[84, 65, 66, 76, 69]] r)).2)
theorem dropM_ok {r : R} (h : r.ok) : (dropM r).2.ok := nameM_ok (mustM_ok h)
theorem drop_pc {r : R} (h : r.ok) : TwoS 106 r 2 (dropM r).1 (dropM r).2 := by
  unfold TwoS
  refine PC.intro tab_ok Tryz.func106 rfl (by kernel_rfl) Tryz.ntmps106 (Nat.le_of_ble_eq_true rfl) (rs := _) (congrArg Array.toList Tryz.results106) ?_
  refine PW.go tab_ok [] fun K hK => ?_
  simp only [go_sem, ↓reduceIte, reduceCtorEq, Nat.reduceBEq, Nat.reduceAdd, Nat.reduceMul, Nat.reduceSub, Nat.reduceLT, Nat.reduceLeDiff, Nat.reduceEqDiff]
  refine (must_pc (ls := [[84, 65, 66, 76, 69]]) (by decide) h).use 0 rfl (Weaks.refl _) rfl ?_; refine PO.go tab_ok [] ?_
  simp only [go_sem, ↓reduceIte, reduceCtorEq, Nat.reduceBEq, Nat.reduceAdd, Nat.reduceMul, Nat.reduceSub, Nat.reduceLT, Nat.reduceLeDiff, Nat.reduceEqDiff]
  (refine hK _ _ ?_; (try clear hK); (try clear K))
  refine PW.goL tab_ok [] fun K hK => ?_
  simp only [go_sem, ↓reduceIte, reduceCtorEq, Nat.reduceBEq, Nat.reduceAdd, Nat.reduceMul, Nat.reduceSub, Nat.reduceLT, Nat.reduceLeDiff, Nat.reduceEqDiff]
  refine (name_pc (mustM_ok (ls := [[84, 65, 66, 76, 69]]) h)).use 0 rfl (Weaks.refl _) rfl ?_; refine PO.go tab_ok [] ?_
  simp only [stC0, go_sem, ↓reduceIte, reduceCtorEq, Nat.reduceBEq, Nat.reduceAdd, Nat.reduceMul, Nat.reduceSub, Nat.reduceLT, Nat.reduceLeDiff, Nat.reduceEqDiff]
  (refine hK _ _ ?_; (try clear hK); (try clear K))
  refine TwoS.fin (.inr rfl) ?_
  (repeat (first | exact .nil | refine .cons (by first | exact .refl _ | exact Weak.nil _ _ _ | exact Weak.no _ _ _ | exact opt_weak _) ?_))
def removeM (r : R) : Stm × R :=
  let q := nameM (mustM [[70, 82, 79, 77]] r)
  ({ stm0 5 with table := q.1, wh := (maybeM [87, 72, 69, 82, 69] q.2).1.toList }, (maybeM [87, 72, 69, 82, 69] q.2).2)
theorem removeM_ok {r : R} (h : r.ok) : (removeM r).2.ok := maybeM_ok (nameM_ok (mustM_ok h))
theorem remove_pc {r : R} (h : r.ok) (hd : r.d = 0) : TwoS 109 r 5 (removeM r).1 (removeM r).2 := by
  unfold TwoS
  refine PC.intro tab_ok Tryz.func109 rfl (by kernel_rfl) Tryz.ntmps109 (Nat.le_of_ble_eq_true rfl) (rs := _) (congrArg Array.toList Tryz.results109) ?_
  refine PW.go tab_ok [] fun K hK => ?_
  simp only [go_sem, ↓reduceIte, reduceCtorEq, Nat.reduceBEq, Nat.reduceAdd, Nat.reduceMul, Nat.reduceSub, Nat.reduceLT, Nat.reduceLeDiff, Nat.reduceEqDiff]
  refine (must_pc (ls := [[70, 82, 79, 77]]) (by decide) h).use 0 rfl (Weaks.refl _) rfl ?_; refine PO.go tab_ok [] ?_
  simp only [go_sem, ↓reduceIte, reduceCtorEq, Nat.reduceBEq, Nat.reduceAdd, Nat.reduceMul, Nat.reduceSub, Nat.reduceLT, Nat.reduceLeDiff, Nat.reduceEqDiff]
  (refine hK _ _ ?_; (try clear hK); (try clear K))
  refine PW.go tab_ok [] fun K hK => ?_
  simp only [go_sem, ↓reduceIte, reduceCtorEq, Nat.reduceBEq, Nat.reduceAdd, Nat.reduceMul, Nat.reduceSub, Nat.reduceLT, Nat.reduceLeDiff, Nat.reduceEqDiff]
  refine (name_pc (mustM_ok (ls := [[70, 82, 79, 77]]) h)).use 0 rfl (Weaks.refl _) rfl ?_; refine PO.go tab_ok [] ?_
  simp only [stC0, go_sem, ↓reduceIte, reduceCtorEq, Nat.reduceBEq, Nat.reduceAdd, Nat.reduceMul, Nat.reduceSub, Nat.reduceLT, Nat.reduceLeDiff, Nat.reduceEqDiff]
  (refine hK _ _ ?_; (try clear hK); (try clear K))
  refine PW.goL tab_ok [] fun K hK => ?_
  simp only [go_sem, ↓reduceIte, reduceCtorEq, Nat.reduceBEq, Nat.reduceAdd, Nat.reduceMul, Nat.reduceSub, Nat.reduceLT, Nat.reduceLeDiff, Nat.reduceEqDiff]
  refine (maybe_pc (w := [87, 72, 69, 82, 69]) (nameM_ok (mustM_ok (ls := [[70, 82, 79, 77]]) h)) (by rw [nameM_d, mustM_d, hd])).use 0 rfl (Weaks.refl _) rfl ?_; refine PO.go tab_ok [] ?_
  simp only [opt_isCell, go_sem, ↓reduceIte, reduceCtorEq, Nat.reduceBEq, Nat.reduceAdd, Nat.reduceMul, Nat.reduceSub, Nat.reduceLT, Nat.reduceLeDiff, Nat.reduceEqDiff]
  (refine hK _ _ ?_; (try clear hK); (try clear K))
  refine TwoS.fin (.inr rfl) ?_
  (repeat (first | exact .nil | refine .cons (by first | exact .refl _ | exact Weak.nil _ _ _ | exact Weak.no _ _ _ | exact opt_weak _) ?_))
end Go.Proofs.YtpepmfhemjeocaaGreatDoor
end
section
/- The parser's statements: INSERT, UPDATE. -/
set_option linter.unusedVariables false
set_option linter.unusedSimpArgs false
namespace Go.Proofs.YtpepmfhemjeocaaGreatDoor
open Go

/-! ### With a fault no expression is read -/
def Stk (m : R → Ex × R) : Prop := ∀ r : R, r.c ≠ 0 → (m r).2.c ≠ 0
theorem deepM_bad {r : R} (h : r.c ≠ 0) : (deepM r).c ≠ 0 := by
  have h1 : (r.deep 1).c ≠ 0 := h
  unfold deepM
  split
  · rw [failM_bad h1]; exact h1
  · exact h1
theorem withM_stk (one : R → Ex × R) : Stk (withM one) := fun r h => by
  have h1 := deepM_bad h
  unfold withM
  rw [if_neg h1]
  exact h1
theorem colM_stk : Stk colM := fun r h => by simp [colM, nameM_bad h, hasM_bad h, h]
theorem facM_stk (a b : R → Ex × R) : Stk (facM a b) := fun r h => by
  simp only [facM, litM_bad h, passM_bad h]
  exact colM_stk r h
theorem rowM_stk {m : R → Ex × R} (h : Stk m) (first : Int) (ops : List Str) : Stk (rowM m first ops) := fun r hc => by
  have h1 := h r hc
  unfold rowM
  cases (m r).2.ts.length with
  | zero => exact h1
  | succ n =>
    simp only [rowL, passM_bad h1]
    exact h1
theorem testM_stk {m : R → Ex × R} (h : Stk m) : Stk (testM m) := fun r hc => by
  have h1 := h r hc
  simp only [testM, passM_bad h1]
  exact h1
theorem notM_stk (nt : R → Ex × R) {m : R → Ex × R} (h : Stk m) : Stk (notM nt m) := fun r hc => by
  simp only [notM, hasM_bad hc]
  exact h r hc
theorem mkLv_stk (l : Lv) : Stk (mkLv l).ex := rowM_stk (rowM_stk (notM_stk _ (testM_stk (rowM_stk (rowM_stk (facM_stk _ _) _ _) _ _))) _ _) _ _
theorem exprM_bad {r : R} (h : r.c ≠ 0) : (exprM r).2.c ≠ 0 := mkLv_stk (lv 9) r h
/-- A statement of INSERT, UPDATE or SELECT whose rows, sets or items are still read; and where the reader and it are told of. -/
def midC (k : Int) (t : Str) (rows sets items : PV) : List PV := [.int .i64 k, .str t, nilPV, .str [], rows, sets, items, .str [], nilPV, nilPV, nilPV, nilPV, .bool false, .int .i64 (-1)]
def midB (k : Int) (t : Str) (rows sets items : PV) : List (List PV) := [midC k t rows sets items, [.ref 0 0], [.ref 1 0]]
theorem mid_good {k : Int} {t : Str} {rows sets items : PV} {n : Nat} (h : rows.isCell = true ∧ sets.isCell = true ∧ items.isCell = true) (hc : PV.clean 4 1 rows = true ∧ PV.clean 4 1 sets = true ∧ PV.clean 4 1 items = true) (q : R) : StOk ⟨rPV q :: midB k t rows sets items, [n]⟩ := by
  refine StOk.mk' fun cs hm => ?_
  simp only [midB, List.mem_cons, List.not_mem_nil, or_false] at hm
  rcases hm with rfl | rfl | rfl | rfl
  · exact ⟨r_all q, PVs.clean_data (r_clean q)⟩
  · refine ⟨?_, ?_⟩
    · simp only [midC, List.all_cons, List.all_nil, h.1, h.2.1, h.2.2]; rfl
    · have : ∀ (a b : Nat), a = 4 → b = 1 → PVs.clean a b (midC k t rows sets items) = true := by
        rintro _ _ rfl rfl
        simp only [midC, PVs.clean, hc.1, hc.2.1, hc.2.2]
        rfl
      exact this _ _ rfl rfl
  · exact ⟨rfl, rfl⟩
  · exact ⟨rfl, rfl⟩

theorem Ends.all {tt : TTab} {env : Env} {e : Exit} {st0 st st' : St} (he : e = .ret ∨ e = .normal) (hst : st = st') (hg : StOk st') (hb : st0.box.length ≤ st'.box.length) (hl : st0.len.length ≤ st'.len.length) :
    Ends tt [] st0 (fun x s => x = .tup [] ∧ s = st') e env st := by
  subst hst
  exact ⟨he, [], .tup [], _, rfl, .refl _, hg.left, hb, hl, rfl, rfl, rfl⟩
def insOne (z : R × List (List Vl)) : R × List (List Vl) := ((tupleM z.1).2, z.2 ++ [(tupleM z.1).1])
def insB (t : Str) (s : List (List Vl)) : List (List PV) := midB 3 t (.list 1 (s.map rowPV) (.own 0)) nilPV nilPV
theorem insertIn_pc {q : R} {t : Str} {s : List (List Vl)} (h : q.ok) (hs : s.length ≤ 1000) : PC Tryz.prog 158 [.ref 3 0, .ref 2 0] ⟨rPV q :: insB t s, [s.length]⟩ fun x st' => x = .tup [] ∧ st' = ⟨rPV (insOne (q, s)).1 :: insB t (insOne (q, s)).2, [(insOne (q, s)).2.length]⟩ := by
  have hfit : (s.length + 1) * 24 ≤ 140737488355328 := by omega
  have hmax : s.length + 1 ≤ maxLen := by unfold maxLen; omega
  unfold insB midB midC
  refine PC.intro tab_ok Tryz.func158 rfl (by kernel_rfl) Tryz.ntmps158 (Nat.le_of_ble_eq_true rfl) (rs := _) (congrArg Array.toList Tryz.results158) ?_
  refine PW.draw tab_ok mixed [] [(0, []), (1, []), (2, []), (3, []), (4, []), (5, []), (6, [0, 1, 4]), (7, []), (8, [0, 1, 5]), (9, []), (10, []), (11, [])] (by kernel_rfl) fun K hK => ?_
  simp only [go_sem, ↓reduceIte, reduceCtorEq, Nat.reduceBEq, Nat.reduceAdd, Nat.reduceMul, Nat.reduceSub, Nat.reduceLT, Nat.reduceLeDiff, Nat.reduceEqDiff]
  refine (tuple_pc h).use 0 rfl (Weaks.refl _) rfl ?_
  refine ⟨?_, ?_, ?_, GO.go tab_ok ?_⟩
  · simp only [go_sem, ↓reduceIte, reduceCtorEq, Nat.reduceBEq, Nat.reduceAdd, Nat.reduceMul, Nat.reduceSub, Nat.reduceLT, Nat.reduceLeDiff, Nat.reduceEqDiff]
  · simp only [go_sem, ↓reduceIte, reduceCtorEq, Nat.reduceBEq, Nat.reduceAdd, Nat.reduceMul, Nat.reduceSub, Nat.reduceLT, Nat.reduceLeDiff, Nat.reduceEqDiff]
  · simp only [go_sem, ↓reduceIte, reduceCtorEq, Nat.reduceBEq, Nat.reduceAdd, Nat.reduceMul, Nat.reduceSub, Nat.reduceLT, Nat.reduceLeDiff, Nat.reduceEqDiff]
  simp only [rowPV, hfit, hmax, go_sem, ↓reduceIte, reduceCtorEq, Nat.reduceBEq, Nat.reduceAdd, Nat.reduceMul, Nat.reduceSub, Nat.reduceLT, Nat.reduceLeDiff, Nat.reduceEqDiff]
  (refine hK _ _ ?_; (try clear hK); (try clear K))
  exact Ends.all (.inr rfl) (by simp [insOne, rowPV]) (mid_good ⟨rfl, rfl, rfl⟩ ⟨by simp [PV.clean, clean_map (row_clean 4 1)], rfl, rfl⟩ _) (by simp) (by simp)
theorem ins_reads (t : Str) : Reads (List (List Vl)) 158 [.ref 3 0, .ref 2 0] insOne (insB t) (fun s => [s.length]) (fun m q s => q.ok ∧ s.length + m ≤ 100) 3 1 where
  pc := fun m q s h => insertIn_pc h.1 (by omega)
  nb := fun _ => rfl
  nl := fun _ => rfl
  ok := fun m q s h => h.1
  aft := fun m q s h => tupleM_ok h.1
  good := fun s q => mid_good ⟨rfl, rfl, rfl⟩ ⟨by simp [PV.clean, clean_map (row_clean 4 1)], rfl, rfl⟩ q
  next := fun m q s h => ⟨hasM_ok (tupleM_ok h.1), by simp [insOne]; omega⟩
  fail := fun q s h => ⟨failM_ok h.1 2, h.2⟩
  bad := fun q s h hc => by simp [insOne, tupleM_bad hc, hc]
def insertM (r : R) : Stm × R :=
  let q := nameM (mustM [[73, 78, 84, 79]] r)
  let z := manyM insOne 16 (mustM [[86, 65, 76, 85, 69, 83]] q.2, [])
  ({ stm0 3 with table := q.1, rows := z.2 }, z.1)
theorem insertM_ok {r : R} (h : r.ok) : (insertM r).2.ok := many_ok (fun q s h => tupleM_ok h) 16 _ _ (mustM_ok (nameM_ok (mustM_ok h)))
theorem insertM_d (r : R) : (insertM r).2.d = r.d := by
  simp only [insertM]
  rw [many_d (fun q s => tupleM_d q), mustM_d, nameM_d, mustM_d]
theorem insert_pc {r : R} (h : r.ok) : TwoS 107 r 3 (insertM r).1 (insertM r).2 := by
  unfold TwoS
  refine PC.intro tab_ok Tryz.func107 rfl (by kernel_rfl) Tryz.ntmps107 (Nat.le_of_ble_eq_true rfl) (rs := _) (congrArg Array.toList Tryz.results107) ?_
  (repeat (refine PW.go tab_ok [] fun K hK => ?_; simp only [go_sem, ↓reduceIte, reduceCtorEq, Nat.reduceBEq, Nat.reduceAdd, Nat.reduceMul, Nat.reduceSub, Nat.reduceLT, Nat.reduceLeDiff, Nat.reduceEqDiff]; (refine hK _ _ ?_; clear hK K)))
  refine PW.go tab_ok [] fun K hK => ?_
  simp only [go_sem, ↓reduceIte, reduceCtorEq, Nat.reduceBEq, Nat.reduceAdd, Nat.reduceMul, Nat.reduceSub, Nat.reduceLT, Nat.reduceLeDiff, Nat.reduceEqDiff]
  refine (must_pc (ls := [[73, 78, 84, 79]]) (by decide) h).use 0 rfl (Weaks.refl _) rfl ?_; refine PO.go tab_ok [] ?_
  simp only [go_sem, ↓reduceIte, reduceCtorEq, Nat.reduceBEq, Nat.reduceAdd, Nat.reduceMul, Nat.reduceSub, Nat.reduceLT, Nat.reduceLeDiff, Nat.reduceEqDiff]
  (refine hK _ _ ?_; (try clear hK); (try clear K))
  have h1 := mustM_ok (ls := [[73, 78, 84, 79]]) h
  have hz : insertM r = insertM r := rfl
  conv at hz => rhs; unfold insertM
  simp only at hz
  generalize mustM [[73, 78, 84, 79]] r = q1 at h1 hz ⊢
  refine PW.draws tab_ok mixed [] [(0, []), (1, []), (2, [0]), (3, []), (4, []), (5, [])] (by kernel_rfl) fun K hK => ?_
  simp only [go_sem, ↓reduceIte, reduceCtorEq, Nat.reduceBEq, Nat.reduceAdd, Nat.reduceMul, Nat.reduceSub, Nat.reduceLT, Nat.reduceLeDiff, Nat.reduceEqDiff]
  refine (name_pc h1).use 0 rfl (Weaks.refl _) rfl ?_
  refine ⟨?_, GO.go tab_ok ?_⟩
  · simp only [go_sem, ↓reduceIte, reduceCtorEq, Nat.reduceBEq, Nat.reduceAdd, Nat.reduceMul, Nat.reduceSub, Nat.reduceLT, Nat.reduceLeDiff, Nat.reduceEqDiff]
  simp only [stC0, go_sem, ↓reduceIte, reduceCtorEq, Nat.reduceBEq, Nat.reduceAdd, Nat.reduceMul, Nat.reduceSub, Nat.reduceLT, Nat.reduceLeDiff, Nat.reduceEqDiff]
  (refine hK _ _ ?_; (try clear hK); (try clear K))
  have h2 := nameM_ok h1
  generalize nameM q1 = q2 at h2 hz ⊢
  obtain ⟨t, q2⟩ := q2
  simp only at h2 hz ⊢
  refine PW.go tab_ok [] fun K hK => ?_
  simp only [go_sem, ↓reduceIte, reduceCtorEq, Nat.reduceBEq, Nat.reduceAdd, Nat.reduceMul, Nat.reduceSub, Nat.reduceLT, Nat.reduceLeDiff, Nat.reduceEqDiff]
  refine (must_pc (ls := [[86, 65, 76, 85, 69, 83]]) (by decide) h2).use 0 rfl (Weaks.refl _) rfl ?_; refine PO.go tab_ok [] ?_
  simp only [go_sem, ↓reduceIte, reduceCtorEq, Nat.reduceBEq, Nat.reduceAdd, Nat.reduceMul, Nat.reduceSub, Nat.reduceLT, Nat.reduceLeDiff, Nat.reduceEqDiff]
  (refine hK _ _ ?_; (try clear hK); (try clear K))
  have h3 := mustM_ok (ls := [[86, 65, 76, 85, 69, 83]]) h2
  generalize mustM [[86, 65, 76, 85, 69, 83]] q2 = q3 at h3 hz ⊢
  refine PW.adopt ?_
  refine PW.forget [(3, .ref 3 0), (2, .ref 2 0), (1, .ref 1 0), (0, .ref 0 0)] ⟨rPV q3 :: insB t [], [0]⟩ (by simp [Sub, eget]) ⟨?_, rfl, ((ins_reads t).good [] q3).clean⟩ rfl (Nat.le_refl _) (Nat.le_refl _) ?_
  · simp [insB, midB, midC, nilPV, Weaks.refl, Weak.nil, PV.isCell, r_all, rPV, rdPV]
  refine PW.goL tab_ok [] fun K hK => ?_
  simp only [insB, midB, go_sem, ↓reduceIte, reduceCtorEq, Nat.reduceBEq, Nat.reduceAdd, Nat.reduceMul, Nat.reduceSub, Nat.reduceLT, Nat.reduceLeDiff, Nat.reduceEqDiff]
  refine (many_pc (ins_reads t) 16 (by omega) (q0 := q3) (s0 := []) ⟨h3, by simp⟩ rfl).mono ?_
  rintro x st' ⟨rfl, rfl⟩
  generalize manyM insOne 16 (q3, []) = z at hz ⊢
  refine PO.go tab_ok [] ?_
  simp only [insB, midB, midC, go_sem, ↓reduceIte, reduceCtorEq, Nat.reduceBEq, Nat.reduceAdd, Nat.reduceMul, Nat.reduceSub, Nat.reduceLT, Nat.reduceLeDiff, Nat.reduceEqDiff]
  (refine hK _ _ ?_; (try clear hK); (try clear K))
  rw [hz]
  refine TwoS.fin (.inr rfl) ?_
  (repeat (first | exact .nil | refine .cons (by first | exact .refl _ | exact Weak.nil _ _ _ | exact Weak.no _ _ _ | exact opt_weak _) ?_))

/-! ### UPDATE -/
def updOne (z : R × List SetX) : R × List SetX :=
  let n := nameM z.1
  let e := exprM (mustM [[61]] n.2)
  (e.2, z.2 ++ [⟨n.1, e.1⟩])
def updB (t : Str) (s : List SetX) : List (List PV) := midB 4 t nilPV (.list 9 (s.map sePV) (.own 0)) nilPV
theorem updOne_ok {q : R} (h : q.ok) (s : List SetX) : (updOne (q, s)).1.ok := exprM_sh.ok _ (mustM_ok (nameM_ok h))
theorem updOne_d (q : R) (s : List SetX) : (updOne (q, s)).1.d = q.d := by
  simp only [updOne, exprM_sh.dd, mustM_d, nameM_d]
theorem updateIn_pc {q : R} {t : Str} {s : List SetX} (h : q.ok) (hd : q.d = 0) (hs : s.length ≤ 1000) : PC Tryz.prog 160 [.ref 2 0, .ref 3 0] ⟨rPV q :: updB t s, [s.length]⟩ fun x st' => x = .tup [] ∧ st' = ⟨rPV (updOne (q, s)).1 :: updB t (updOne (q, s)).2, [(updOne (q, s)).2.length]⟩ := by
  have hfit : (s.length + 1) * 120 ≤ 140737488355328 := by omega
  have hmax : s.length + 1 ≤ maxLen := by unfold maxLen; omega
  unfold updB midB midC
  refine PC.intro tab_ok Tryz.func160 rfl (by kernel_rfl) Tryz.ntmps160 (Nat.le_of_ble_eq_true rfl) (rs := _) (congrArg Array.toList Tryz.results160) ?_
  refine PW.go tab_ok [] fun K hK => ?_
  simp only [go_sem, ↓reduceIte, reduceCtorEq, Nat.reduceBEq, Nat.reduceAdd, Nat.reduceMul, Nat.reduceSub, Nat.reduceLT, Nat.reduceLeDiff, Nat.reduceEqDiff]
  refine (name_pc h).use 0 rfl (Weaks.refl _) rfl ?_; refine PO.go tab_ok [] ?_
  simp only [go_sem, ↓reduceIte, reduceCtorEq, Nat.reduceBEq, Nat.reduceAdd, Nat.reduceMul, Nat.reduceSub, Nat.reduceLT, Nat.reduceLeDiff, Nat.reduceEqDiff]
  (refine hK _ _ ?_; (try clear hK); (try clear K))
  have h1 := nameM_ok h
  have hd1 : (nameM q).2.d = 0 := by rw [nameM_d, hd]
  refine PW.go tab_ok [] fun K hK => ?_
  simp only [go_sem, ↓reduceIte, reduceCtorEq, Nat.reduceBEq, Nat.reduceAdd, Nat.reduceMul, Nat.reduceSub, Nat.reduceLT, Nat.reduceLeDiff, Nat.reduceEqDiff]
  refine (must_pc (ls := [[61]]) (by decide) h1).use 0 rfl (Weaks.refl _) rfl ?_; refine PO.go tab_ok [] ?_
  simp only [go_sem, ↓reduceIte, reduceCtorEq, Nat.reduceBEq, Nat.reduceAdd, Nat.reduceMul, Nat.reduceSub, Nat.reduceLT, Nat.reduceLeDiff, Nat.reduceEqDiff]
  (refine hK _ _ ?_; (try clear hK); (try clear K))
  refine PW.draw tab_ok mixed [] [(0, []), (1, []), (2, []), (3, []), (4, []), (5, []), (6, []), (7, [0, 1, 4]), (8, []), (9, []), (10, [0, 1, 6]), (11, []), (12, []), (13, [])] (by kernel_rfl) fun K hK => ?_
  simp only [go_sem, ↓reduceIte, reduceCtorEq, Nat.reduceBEq, Nat.reduceAdd, Nat.reduceMul, Nat.reduceSub, Nat.reduceLT, Nat.reduceLeDiff, Nat.reduceEqDiff]
  refine (expr_pc (mustM_ok h1) (by rw [mustM_d, hd1])).use 0 rfl (Weaks.refl _) rfl ?_
  refine ⟨?_, ?_, ?_, GO.go tab_ok ?_⟩
  · simp only [go_sem, ↓reduceIte, reduceCtorEq, Nat.reduceBEq, Nat.reduceAdd, Nat.reduceMul, Nat.reduceSub, Nat.reduceLT, Nat.reduceLeDiff, Nat.reduceEqDiff]
  · simp only [go_sem, ↓reduceIte, reduceCtorEq, Nat.reduceBEq, Nat.reduceAdd, Nat.reduceMul, Nat.reduceSub, Nat.reduceLT, Nat.reduceLeDiff, Nat.reduceEqDiff]
  · simp only [go_sem, ↓reduceIte, reduceCtorEq, Nat.reduceBEq, Nat.reduceAdd, Nat.reduceMul, Nat.reduceSub, Nat.reduceLT, Nat.reduceLeDiff, Nat.reduceEqDiff]
  simp only [hfit, hmax, go_sem, ↓reduceIte, reduceCtorEq, Nat.reduceBEq, Nat.reduceAdd, Nat.reduceMul, Nat.reduceSub, Nat.reduceLT, Nat.reduceLeDiff, Nat.reduceEqDiff]
  (refine hK _ _ ?_; (try clear hK); (try clear K))
  exact Ends.all (.inr rfl) (by simp [updOne, sePV]) (mid_good ⟨rfl, rfl, rfl⟩ ⟨rfl, by simp [PV.clean, clean_map (se_clean 4 1)], rfl⟩ _) (by simp) (by simp)
theorem upd_reads (t : Str) : Reads (List SetX) 160 [.ref 2 0, .ref 3 0] updOne (updB t) (fun s => [s.length]) (fun m q s => q.ok ∧ q.d = 0 ∧ s.length + m ≤ 100) 3 1 where
  pc := fun m q s h => updateIn_pc h.1 h.2.1 (by omega)
  nb := fun _ => rfl
  nl := fun _ => rfl
  ok := fun m q s h => h.1
  aft := fun m q s h => updOne_ok h.1 s
  good := fun s q => mid_good ⟨rfl, rfl, rfl⟩ ⟨rfl, by simp [PV.clean, clean_map (se_clean 4 1)], rfl⟩ q
  next := fun m q s h => ⟨hasM_ok (updOne_ok h.1 s), by rw [hasM_d, updOne_d, h.2.1], by simp [updOne]; omega⟩
  fail := fun q s h => ⟨failM_ok h.1 2, by rw [failM_d, h.2.1], h.2.2⟩
  bad := fun q s h hc => by
    have := exprM_bad hc
    simp [updOne, nameM_bad hc, mustM_bad hc, this, hc]
def updateM (r : R) : Stm × R :=
  let q := nameM r
  let z := manyM updOne 8 (mustM [[83, 69, 84]] q.2, [])
  let w := maybeM [87, 72, 69, 82, 69] z.1
  ({ stm0 4 with table := q.1, sets := z.2, wh := w.1.toList }, w.2)
theorem updateM_ok {r : R} (h : r.ok) : (updateM r).2.ok := maybeM_ok (many_ok (fun q s h => updOne_ok h s) 8 _ _ (mustM_ok (nameM_ok h)))
theorem updateM_d (r : R) : (updateM r).2.d = r.d := by
  simp only [updateM]
  rw [maybeM_d, many_d updOne_d, mustM_d, nameM_d]
theorem update_pc {r : R} (h : r.ok) (hd : r.d = 0) : TwoS 108 r 4 (updateM r).1 (updateM r).2 := by
  unfold TwoS
  refine PC.intro tab_ok Tryz.func108 rfl (by kernel_rfl) Tryz.ntmps108 (Nat.le_of_ble_eq_true rfl) (rs := _) (congrArg Array.toList Tryz.results108) ?_
  (repeat (refine PW.go tab_ok [] fun K hK => ?_; simp only [go_sem, ↓reduceIte, reduceCtorEq, Nat.reduceBEq, Nat.reduceAdd, Nat.reduceMul, Nat.reduceSub, Nat.reduceLT, Nat.reduceLeDiff, Nat.reduceEqDiff]; (refine hK _ _ ?_; clear hK K)))
  have h1 := nameM_ok h
  have hd1 : (nameM r).2.d = 0 := by rw [nameM_d, hd]
  have hz : updateM r = updateM r := rfl
  conv at hz => rhs; unfold updateM
  simp only at hz
  refine PW.draws tab_ok mixed [] [(0, []), (1, []), (2, [0]), (3, []), (4, []), (5, [])] (by kernel_rfl) fun K hK => ?_
  simp only [go_sem, ↓reduceIte, reduceCtorEq, Nat.reduceBEq, Nat.reduceAdd, Nat.reduceMul, Nat.reduceSub, Nat.reduceLT, Nat.reduceLeDiff, Nat.reduceEqDiff]
  refine (name_pc h).use 0 rfl (Weaks.refl _) rfl ?_
  refine ⟨?_, GO.go tab_ok ?_⟩
  · simp only [go_sem, ↓reduceIte, reduceCtorEq, Nat.reduceBEq, Nat.reduceAdd, Nat.reduceMul, Nat.reduceSub, Nat.reduceLT, Nat.reduceLeDiff, Nat.reduceEqDiff]
  simp only [stC0, go_sem, ↓reduceIte, reduceCtorEq, Nat.reduceBEq, Nat.reduceAdd, Nat.reduceMul, Nat.reduceSub, Nat.reduceLT, Nat.reduceLeDiff, Nat.reduceEqDiff]
  (refine hK _ _ ?_; (try clear hK); (try clear K))
  generalize nameM r = q2 at h1 hd1 hz ⊢
  obtain ⟨t, q2⟩ := q2
  simp only at h1 hd1 hz ⊢
  refine PW.go tab_ok [] fun K hK => ?_
  simp only [go_sem, ↓reduceIte, reduceCtorEq, Nat.reduceBEq, Nat.reduceAdd, Nat.reduceMul, Nat.reduceSub, Nat.reduceLT, Nat.reduceLeDiff, Nat.reduceEqDiff]
  refine (must_pc (ls := [[83, 69, 84]]) (by decide) h1).use 0 rfl (Weaks.refl _) rfl ?_; refine PO.go tab_ok [] ?_
  simp only [go_sem, ↓reduceIte, reduceCtorEq, Nat.reduceBEq, Nat.reduceAdd, Nat.reduceMul, Nat.reduceSub, Nat.reduceLT, Nat.reduceLeDiff, Nat.reduceEqDiff]
  (refine hK _ _ ?_; (try clear hK); (try clear K))
  have h3 := mustM_ok (ls := [[83, 69, 84]]) h1
  have hd3 : (mustM [[83, 69, 84]] q2).d = 0 := by rw [mustM_d, hd1]
  generalize mustM [[83, 69, 84]] q2 = q3 at h3 hd3 hz ⊢
  refine PW.adopt ?_
  refine PW.forget [(3, .ref 3 0), (2, .ref 2 0), (1, .ref 1 0), (0, .ref 0 0)] ⟨rPV q3 :: updB t [], [0]⟩ (by simp [Sub, eget]) ⟨?_, rfl, ((upd_reads t).good [] q3).clean⟩ rfl (Nat.le_refl _) (Nat.le_refl _) ?_
  · simp [updB, midB, midC, nilPV, Weaks.refl, Weak.nil, PV.isCell, r_all, rPV, rdPV]
  refine PW.go tab_ok [] fun K hK => ?_
  simp only [updB, midB, go_sem, ↓reduceIte, reduceCtorEq, Nat.reduceBEq, Nat.reduceAdd, Nat.reduceMul, Nat.reduceSub, Nat.reduceLT, Nat.reduceLeDiff, Nat.reduceEqDiff]
  refine (many_pc (upd_reads t) 8 (by omega) (q0 := q3) (s0 := []) ⟨h3, hd3, by simp⟩ rfl).mono ?_
  rintro x st' ⟨rfl, rfl⟩
  have h4 := many_ok (fun q s h => updOne_ok h s) 8 q3 [] h3
  have hd4 : (manyM updOne 8 (q3, [])).1.d = 0 := by rw [many_d updOne_d, hd3]
  generalize manyM updOne 8 (q3, []) = z at h4 hd4 hz ⊢
  refine PO.go tab_ok [] ?_
  simp only [updB, midB, midC, go_sem, ↓reduceIte, reduceCtorEq, Nat.reduceBEq, Nat.reduceAdd, Nat.reduceMul, Nat.reduceSub, Nat.reduceLT, Nat.reduceLeDiff, Nat.reduceEqDiff]
  (refine hK _ _ ?_; (try clear hK); (try clear K))
  refine PW.draw tab_ok mixed [] [(0, []), (1, []), (2, [0]), (3, []), (4, []), (5, [])] (by kernel_rfl) fun K hK => ?_
  simp only [go_sem, ↓reduceIte, reduceCtorEq, Nat.reduceBEq, Nat.reduceAdd, Nat.reduceMul, Nat.reduceSub, Nat.reduceLT, Nat.reduceLeDiff, Nat.reduceEqDiff]
  refine (maybe_pc (w := [87, 72, 69, 82, 69]) h4 hd4).use 0 rfl (Weaks.refl _) rfl ?_
  refine ⟨?_, GO.go tab_ok ?_⟩
  · simp only [go_sem, ↓reduceIte, reduceCtorEq, Nat.reduceBEq, Nat.reduceAdd, Nat.reduceMul, Nat.reduceSub, Nat.reduceLT, Nat.reduceLeDiff, Nat.reduceEqDiff]
  simp only [go_sem, ↓reduceIte, reduceCtorEq, Nat.reduceBEq, Nat.reduceAdd, Nat.reduceMul, Nat.reduceSub, Nat.reduceLT, Nat.reduceLeDiff, Nat.reduceEqDiff]
  (refine hK _ _ ?_; (try clear hK); (try clear K))
  rw [hz]
  refine TwoS.fin (.inr rfl) ?_
  (repeat (first | exact .nil | refine .cons (by first | exact .refl _ | exact Weak.nil _ _ _ | exact Weak.no _ _ _ | exact opt_weak _) ?_))
end Go.Proofs.YtpepmfhemjeocaaGreatDoor
end
section
/- The parser's statements: CREATE. -/
set_option linter.unusedVariables false
set_option linter.unusedSimpArgs false
namespace Go.Proofs.YtpepmfhemjeocaaGreatDoor
open Go

def sPRIM : Str := [80, 82, 73, 77, 65, 82, 89]
def creL : Nat → List Col → R → List Col × R
  | 0, cs, r => (cs, r)
  | n + 1, cs, r =>
    if r.c ≠ 0 then (cs, r)
    else if cs ≠ [] ∧ (hasM sPRIM r).1 = true then (cs, (hasM sPRIM r).2)
    else creL n (cs ++ [(coM (if cs.length = 8 then failM 2 r else r)).1]) (mustM [[44]] (coM (if cs.length = 8 then failM 2 r else r)).2)
theorem creL_ok : ∀ (n : Nat) (cs : List Col) (r : R), r.ok → (creL n cs r).2.ok
  | 0, cs, r, h => h
  | n + 1, cs, r, h => by
    unfold creL
    split
    · exact h
    · split
      · exact hasM_ok h
      · refine creL_ok n _ _ (mustM_ok (coM_ok ?_))
        split
        · exact failM_ok h 2
        · exact h
theorem creL_d : ∀ (n : Nat) (cs : List Col) (r : R), (creL n cs r).2.d = r.d
  | 0, cs, r => rfl
  | n + 1, cs, r => by
    unfold creL
    split
    · rfl
    · split
      · exact hasM_d _ _
      · rw [creL_d n, mustM_d, coM_d]
        split
        · exact failM_d _ _
        · rfl
def createM (r : R) : Stm × R :=
  let q := nameM (mustM [[84, 65, 66, 76, 69]] r)
  let z := creL 10 [] (mustM [[40]] q.2)
  let p := nameM (mustM [[75, 69, 89], [40]] z.2)
  ({ stm0 1 with table := q.1, cols := z.1, prim := p.1 }, mustM [[41], [41]] p.2)
theorem createM_ok {r : R} (h : r.ok) : (createM r).2.ok := mustM_ok (nameM_ok (mustM_ok (creL_ok 10 _ _ (mustM_ok (nameM_ok (mustM_ok h))))))
theorem createM_d (r : R) : (createM r).2.d = r.d := by
  simp only [createM]
  rw [mustM_d, nameM_d, mustM_d, creL_d, mustM_d, nameM_d, mustM_d]
def creC (t : Str) (cs : List Col) : List PV := [.int .i64 1, .str t, .list 4 (cs.map coPV) (.own 0), .str [], nilPV, nilPV, nilPV, .str [], nilPV, nilPV, nilPV, nilPV, .bool false, .int .i64 (-1)]
theorem cre_good (t : Str) (cs : List Col) (q : R) (n : Nat) : StOk ⟨[rPV q, creC t cs], [n]⟩ := by
  refine StOk.mk' fun c hc => ?_
  simp only [List.mem_cons, List.not_mem_nil, or_false] at hc
  rcases hc with rfl | rfl
  · exact ⟨r_all q, PVs.clean_data (r_clean q)⟩
  · refine ⟨rfl, ?_⟩
    simp [creC, PVs.clean, PV.clean, clean_map (co_clean 2 1)]
    rfl
theorem co_cells (c : Col) : (coPV c).cells = [.str c.name, .int .i64 c.kind, .bool c.nn, .bool c.un] := rfl
set_option maxHeartbeats 1000000 in
theorem create_pc {r : R} (h : r.ok) : TwoS 105 r 1 (createM r).1 (createM r).2 := by
  have hz : createM r = createM r := rfl
  conv at hz => rhs; unfold createM
  simp only at hz
  unfold TwoS
  refine PC.intro tab_ok Tryz.func105 rfl (by kernel_rfl) Tryz.ntmps105 (Nat.le_of_ble_eq_true rfl) (rs := _) (congrArg Array.toList Tryz.results105) ?_
  refine PW.go tab_ok [] fun K hK => ?_
  simp only [go_sem, ↓reduceIte, reduceCtorEq, Nat.reduceBEq, Nat.reduceAdd, Nat.reduceMul, Nat.reduceSub, Nat.reduceLT, Nat.reduceLeDiff, Nat.reduceEqDiff]
  refine (must_pc (ls := [[84, 65, 66, 76, 69]]) (by decide) h).use 0 rfl (Weaks.refl _) rfl ?_; refine PO.go tab_ok [] ?_
  simp only [go_sem, ↓reduceIte, reduceCtorEq, Nat.reduceBEq, Nat.reduceAdd, Nat.reduceMul, Nat.reduceSub, Nat.reduceLT, Nat.reduceLeDiff, Nat.reduceEqDiff]
  (refine hK _ _ ?_; (try clear hK); (try clear K))
  have h1 := mustM_ok (ls := [[84, 65, 66, 76, 69]]) h
  generalize mustM [[84, 65, 66, 76, 69]] r = q1 at h1 hz ⊢
  refine PW.go tab_ok [] fun K hK => ?_
  simp only [go_sem, ↓reduceIte, reduceCtorEq, Nat.reduceBEq, Nat.reduceAdd, Nat.reduceMul, Nat.reduceSub, Nat.reduceLT, Nat.reduceLeDiff, Nat.reduceEqDiff]
  refine (name_pc h1).use 0 rfl (Weaks.refl _) rfl ?_; refine PO.go tab_ok [] ?_
  simp only [stC0, go_sem, ↓reduceIte, reduceCtorEq, Nat.reduceBEq, Nat.reduceAdd, Nat.reduceMul, Nat.reduceSub, Nat.reduceLT, Nat.reduceLeDiff, Nat.reduceEqDiff]
  (refine hK _ _ ?_; (try clear hK); (try clear K))
  have h2 := nameM_ok h1
  generalize nameM q1 = q2 at h2 hz ⊢
  obtain ⟨t, q2⟩ := q2
  simp only at h2 hz ⊢
  refine PW.go tab_ok [] fun K hK => ?_
  simp only [go_sem, ↓reduceIte, reduceCtorEq, Nat.reduceBEq, Nat.reduceAdd, Nat.reduceMul, Nat.reduceSub, Nat.reduceLT, Nat.reduceLeDiff, Nat.reduceEqDiff]
  refine (must_pc (ls := [[40]]) (by decide) h2).use 0 rfl (Weaks.refl _) rfl ?_; refine PO.go tab_ok [] ?_
  simp only [go_sem, ↓reduceIte, reduceCtorEq, Nat.reduceBEq, Nat.reduceAdd, Nat.reduceMul, Nat.reduceSub, Nat.reduceLT, Nat.reduceLeDiff, Nat.reduceEqDiff]
  (refine hK _ _ ?_; (try clear hK); (try clear K))
  have h3 := mustM_ok (ls := [[40]]) h2
  generalize mustM [[40]] q2 = q3 at h3 hz ⊢
  refine PW.adopt ?_
  refine PW.forget [(1, .ref 1 0), (0, .ref 0 0)] ⟨[rPV q3, creC t []], [0]⟩ (by simp [Sub, eget]) ⟨?_, rfl, (cre_good t [] q3 0).clean⟩ rfl (Nat.le_refl _) (Nat.le_refl _) ?_
  · simp [creC, nilPV, Weaks.refl, Weak.nil, PV.isCell, r_all, rPV, rdPV]
  refine PW.seq_k fun K0 hK0 => ?_
  have hrest : ∀ {env : Env} {st : St} (z : List Col × R), Sub env [(1, .ref 1 0), (0, .ref 0 0)] → st = ⟨[rPV z.2, creC t z.1], [z.1.length]⟩ → z.2.ok → creL 10 [] q3 = z → K0 env st := by
    rintro env st z hsub rfl hzo hze
    refine hK0 _ _ (PW.less _ hsub ?_)
    clear hK0 K0
    rw [hze] at hz
    refine PW.go tab_ok [] fun K hK => ?_
    simp only [go_sem, ↓reduceIte, reduceCtorEq, Nat.reduceBEq, Nat.reduceAdd, Nat.reduceMul, Nat.reduceSub, Nat.reduceLT, Nat.reduceLeDiff, Nat.reduceEqDiff]
    refine (must_pc (ls := [[75, 69, 89], [40]]) (by decide) hzo).use 0 rfl (Weaks.refl _) rfl ?_; refine PO.go tab_ok [] ?_
    simp only [go_sem, ↓reduceIte, reduceCtorEq, Nat.reduceBEq, Nat.reduceAdd, Nat.reduceMul, Nat.reduceSub, Nat.reduceLT, Nat.reduceLeDiff, Nat.reduceEqDiff]
    (refine hK _ _ ?_; (try clear hK); (try clear K))
    have h4 := mustM_ok (ls := [[75, 69, 89], [40]]) hzo
    generalize mustM [[75, 69, 89], [40]] z.2 = q4 at h4 hz ⊢
    refine PW.go tab_ok [] fun K hK => ?_
    simp only [go_sem, ↓reduceIte, reduceCtorEq, Nat.reduceBEq, Nat.reduceAdd, Nat.reduceMul, Nat.reduceSub, Nat.reduceLT, Nat.reduceLeDiff, Nat.reduceEqDiff]
    refine (name_pc h4).use 0 rfl (Weaks.refl _) rfl ?_; refine PO.go tab_ok [] ?_
    simp only [creC, go_sem, ↓reduceIte, reduceCtorEq, Nat.reduceBEq, Nat.reduceAdd, Nat.reduceMul, Nat.reduceSub, Nat.reduceLT, Nat.reduceLeDiff, Nat.reduceEqDiff]
    (refine hK _ _ ?_; (try clear hK); (try clear K))
    have h5 := nameM_ok h4
    generalize nameM q4 = q5 at h5 hz ⊢
    refine PW.goL tab_ok [] fun K hK => ?_
    simp only [go_sem, ↓reduceIte, reduceCtorEq, Nat.reduceBEq, Nat.reduceAdd, Nat.reduceMul, Nat.reduceSub, Nat.reduceLT, Nat.reduceLeDiff, Nat.reduceEqDiff]
    refine (must_pc (ls := [[41], [41]]) (by decide) h5).use 0 rfl (Weaks.refl _) rfl ?_; refine PO.go tab_ok [] ?_
    simp only [go_sem, ↓reduceIte, reduceCtorEq, Nat.reduceBEq, Nat.reduceAdd, Nat.reduceMul, Nat.reduceSub, Nat.reduceLT, Nat.reduceLeDiff, Nat.reduceEqDiff]
    (refine hK _ _ ?_; (try clear hK); (try clear K))
    rw [hz]
    refine TwoS.fin (.inr rfl) ?_
    (repeat (first | exact .nil | refine .cons (by first | exact .refl _ | exact Weak.nil _ _ _ | exact Weak.no _ _ _ | exact opt_weak _) ?_))
  refine PW.block (PW.loop (α := Nat × List Col × R) (fun _ => [(1, .ref 1 0), (0, .ref 0 0)]) (fun a => ⟨[rPV a.2.2, creC t a.2.1], [a.2.1.length]⟩)
    (fun a => a.1 + a.2.1.length = 10 ∧ (a.2.1.length ≤ 8 ∨ a.2.2.c ≠ 0 ∧ a.2.1.length ≤ 9) ∧ a.2.2.ok ∧ creL a.1 a.2.1 a.2.2 = creL 10 [] q3) (fun a => a.1) (10, [], q3) ⟨rfl, .inl (by simp), h3, rfl⟩ ?_ rfl (fun _ _ => ⟨rfl, rfl⟩) ?_)
  · simp [Sub, eget]
  rintro ⟨n, cs, q⟩ ⟨hn, hlen, hok, he⟩
  simp only at hn hlen hok he
  obtain ⟨m, rfl⟩ : ∃ m, n = m + 1 := ⟨n - 1, by omega⟩
  unfold creL at he
  refine PW.seq_k fun K1 hK1 => ?_
  refine PW.go tab_ok [] fun K hK => ?_
  simp only [go_sem, ↓reduceIte, reduceCtorEq, Nat.reduceBEq, Nat.reduceAdd, Nat.reduceMul, Nat.reduceSub, Nat.reduceLT, Nat.reduceLeDiff, Nat.reduceEqDiff]
  refine (fine_pc q.ts q.d q.c q.a).use 0 rfl .nil rfl (rd_clean _ _ _ _) ?_
  rintro _ _ ⟨rfl, rfl⟩ _ _
  refine PO.go tab_ok [] ?_
  by_cases hc : q.c = 0
  · have hc1 : (q.c == 0) = true := by simp [hc]
    rw [if_neg (by simp [hc])] at he
    have hlen8 : cs.length ≤ 8 := by rcases hlen with h | h; exact h; exact absurd hc h.1
    have hround : ∀ {env : Env} {st : St}, Sub env [(1, .ref 1 0), (0, .ref 0 0)] → st = ⟨[rPV q, creC t cs], [cs.length]⟩ → creL m (cs ++ [(coM (if cs.length = 8 then failM 2 q else q)).1]) (mustM [[44]] (coM (if cs.length = 8 then failM 2 q else q)).2) = creL 10 [] q3 → K1 env st := by
      rintro env st hsub rfl he
      refine hK1 _ _ (PW.less _ hsub ?_)
      clear hK1
      refine PW.block ?_
      refine PW.seq_k fun K0 hK0 => ?_
      refine PW.go tab_ok [] fun K hK => ?_
      simp only [creC, go_sem, ↓reduceIte, reduceCtorEq, Nat.reduceBEq, Nat.reduceAdd, Nat.reduceMul, Nat.reduceSub, Nat.reduceLT, Nat.reduceLeDiff, Nat.reduceEqDiff]
      (refine hK _ _ ?_; (try clear hK); (try clear K))
      have hgo : ∀ {env : Env} {st : St} (q' : R), Sub env [(1, .ref 1 0), (0, .ref 0 0)] → st = ⟨[rPV q', creC t cs], [cs.length]⟩ → q'.ok → creL m (cs ++ [(coM q').1]) (mustM [[44]] (coM q').2) = creL 10 [] q3 → (cs.length = 8 → q'.c ≠ 0) → K0 env st := by
        rintro env st q' hsub rfl hok' he hbad
        refine hK0 _ _ (PW.less _ hsub ?_)
        clear hK0 K0
        have hfit : (cs.length + 1) * 32 ≤ 140737488355328 := by omega
        have hmax : cs.length + 1 ≤ maxLen := by unfold maxLen; omega
        unfold creC
        refine PW.draws tab_ok mixed [] [(0, []), (1, []), (2, []), (3, []), (4, []), (5, []), (6, [4]), (7, []), (8, []), (9, []), (10, []), (11, [])] (by kernel_rfl) fun K hK => ?_
        simp only [go_sem, ↓reduceIte, reduceCtorEq, Nat.reduceBEq, Nat.reduceAdd, Nat.reduceMul, Nat.reduceSub, Nat.reduceLT, Nat.reduceLeDiff, Nat.reduceEqDiff]
        refine (columnOf_pc hok').use 0 rfl (Weaks.refl _) rfl ?_
        refine ⟨?_, GO.go tab_ok ?_⟩
        · simp only [go_sem, ↓reduceIte, reduceCtorEq, Nat.reduceBEq, Nat.reduceAdd, Nat.reduceMul, Nat.reduceSub, Nat.reduceLT, Nat.reduceLeDiff, Nat.reduceEqDiff]
        simp only [hfit, hmax, co_cells, go_sem, ↓reduceIte, reduceCtorEq, Nat.reduceBEq, Nat.reduceAdd, Nat.reduceMul, Nat.reduceSub, Nat.reduceLT, Nat.reduceLeDiff, Nat.reduceEqDiff]
        (refine hK _ _ ?_; (try clear hK); (try clear K))
        have h6 := coM_ok hok'
        have hb6 : q'.c ≠ 0 → (coM q').2.c ≠ 0 := fun hb => by rw [coM_bad hb]; exact hb
        generalize coM q' = z at h6 hb6 he ⊢
        refine PW.goL tab_ok [] fun K hK => ?_
        simp only [go_sem, ↓reduceIte, reduceCtorEq, Nat.reduceBEq, Nat.reduceAdd, Nat.reduceMul, Nat.reduceSub, Nat.reduceLT, Nat.reduceLeDiff, Nat.reduceEqDiff]
        refine (must_pc (ls := [[44]]) (by decide) h6).use 0 rfl (Weaks.refl _) rfl ?_; refine PO.go tab_ok [] ?_
        simp only [go_sem, ↓reduceIte, reduceCtorEq, Nat.reduceBEq, Nat.reduceAdd, Nat.reduceMul, Nat.reduceSub, Nat.reduceLT, Nat.reduceLeDiff, Nat.reduceEqDiff]
        (refine hK _ _ ?_; (try clear hK); (try clear K))
        have hb7 : z.2.c ≠ 0 → (mustM [[44]] z.2).c ≠ 0 := fun hb => by rw [mustM_bad hb]; exact hb
        refine ⟨(m, cs ++ [z.1], mustM [[44]] z.2), ⟨?_, ?_, mustM_ok h6, he⟩, by simp, by simp [Sub, eget], ?_, rfl⟩
        · simp; omega
        · simp only [List.length_append, List.length_cons, List.length_nil]
          by_cases h8 : cs.length = 8
          · exact .inr ⟨hb7 (hb6 (hbad h8)), by omega⟩
          · exact .inl (by omega)
        · have := (cre_good t (cs ++ [z.1]) (mustM [[44]] z.2) (cs ++ [z.1]).length).left
          simpa [creC, coPV] using this
      refine PW.cond_split (b := (cs.length : Int) == 8) rfl ?_ ?_ <;> intro hb
      · have h8 : cs.length = 8 := by have : (cs.length : Int) = 8 := by simpa using hb
                                      omega
        rw [if_pos h8] at he
        refine PW.goL tab_ok [] fun K hK => ?_
        simp only [go_sem, ↓reduceIte, reduceCtorEq, Nat.reduceBEq, Nat.reduceAdd, Nat.reduceMul, Nat.reduceSub, Nat.reduceLT, Nat.reduceLeDiff, Nat.reduceEqDiff]
        refine (fail_pc' hok 2).use 0 rfl (Weaks.refl _) rfl ?_; refine PO.go tab_ok [] ?_
        simp only [go_sem, ↓reduceIte, reduceCtorEq, Nat.reduceBEq, Nat.reduceAdd, Nat.reduceMul, Nat.reduceSub, Nat.reduceLT, Nat.reduceLeDiff, Nat.reduceEqDiff]
        (refine hK _ _ ?_; (try clear hK); (try clear K))
        exact hgo (failM 2 q) (by simp [Sub, eget]) rfl (failM_ok hok 2) he fun _ => failM_c 2 q (by decide)
      · have h8 : ¬ cs.length = 8 := by have : ¬ (cs.length : Int) = 8 := by simpa using hb
                                        omega
        rw [if_neg h8] at he
        exact PW.skip (hgo q (by simp [Sub, eget]) rfl hok he fun h => absurd h h8)
    have hqe : rdPV q.ts q.d q.c q.a = rPV q := rfl
    simp only [hqe]
    by_cases hcs : cs = []
    · have hl0 : (((cs.length : Nat) : Int) == 0) = true := by simp [hcs]
      rw [if_neg (by simp [hcs])] at he
      simp only [hc1, creC, hl0, go_sem, ↓reduceIte, reduceCtorEq, Nat.reduceBEq, Nat.reduceAdd, Nat.reduceMul, Nat.reduceSub, Nat.reduceLT, Nat.reduceLeDiff, Nat.reduceEqDiff]
      (refine hK _ _ ?_; (try clear hK); (try clear K))
      refine PW.cond_split (b := true) rfl ?_ ?_ <;> intro hb
      · exact PW.skip (hround (by simp [Sub, eget]) rfl he)
      · cases hb
    · have hl0 : (((cs.length : Nat) : Int) == 0) = false := by
        have : cs.length ≠ 0 := by simpa using hcs
        simp; omega
      simp only [hc1, creC, hl0, go_sem, ↓reduceIte, reduceCtorEq, Nat.reduceBEq, Nat.reduceAdd, Nat.reduceMul, Nat.reduceSub, Nat.reduceLT, Nat.reduceLeDiff, Nat.reduceEqDiff]
      refine (has_pc (s := sPRIM) hok).use 0 rfl (Weaks.refl _) rfl ?_; refine PO.go tab_ok [] ?_
      simp only [go_sem, ↓reduceIte, reduceCtorEq, Nat.reduceBEq, Nat.reduceAdd, Nat.reduceMul, Nat.reduceSub, Nat.reduceLT, Nat.reduceLeDiff, Nat.reduceEqDiff]
      (refine hK _ _ ?_; (try clear hK); (try clear K))
      refine PW.cond_split (b := !(hasM sPRIM q).1) rfl ?_ ?_ <;> intro hb
      · have hb' : (hasM sPRIM q).1 = false := by simpa using hb
        rw [if_neg (by simp [hb'])] at he
        refine PW.skip (hround (by simp [Sub, eget]) ?_ he)
        rw [hasM_no hb']
        rfl
      · have hb' : (hasM sPRIM q).1 = true := by simpa using hb
        rw [if_pos ⟨hcs, hb'⟩] at he
        exact PW.exit (hrest (cs, (hasM sPRIM q).2) (by simp [Sub, eget]) rfl (hasM_ok hok) he.symm)
  · have hc1 : (q.c == 0) = false := by simp [hc]
    rw [if_pos hc] at he
    simp only [hc1, go_sem, ↓reduceIte, reduceCtorEq, Nat.reduceBEq, Nat.reduceAdd, Nat.reduceMul, Nat.reduceSub, Nat.reduceLT, Nat.reduceLeDiff, Nat.reduceEqDiff]
    (refine hK _ _ ?_; (try clear hK); (try clear K))
    refine PW.cond_split (b := false) rfl ?_ ?_ <;> intro hb
    · cases hb
    · exact PW.exit (hrest (cs, q) (by simp [Sub, eget]) rfl hok he.symm)
end Go.Proofs.YtpepmfhemjeocaaGreatDoor
end
section
/- The parser's statements: SELECT. -/
set_option linter.unusedVariables false
set_option linter.unusedSimpArgs false
namespace Go.Proofs.YtpepmfhemjeocaaGreatDoor
open Go

def choOne (z : R × List Itm) : R × List Itm := ((itemM z.1).2, z.2 ++ [(itemM z.1).1])
def choB (s : List Itm) : List (List PV) := midB 6 [] nilPV nilPV (.list 2 (s.map itPV) (.own 0))
theorem chooseIn_pc {q : R} {s : List Itm} (h : q.ok) (hd : q.d = 0) (hs : s.length ≤ 1000) : PC Tryz.prog 162 [.ref 3 0, .ref 2 0] ⟨rPV q :: choB s, [s.length]⟩ fun x st' => x = .tup [] ∧ st' = ⟨rPV (choOne (q, s)).1 :: choB (choOne (q, s)).2, [(choOne (q, s)).2.length]⟩ := by
  have hfit : (s.length + 1) * 32 ≤ 140737488355328 := by omega
  have hmax : s.length + 1 ≤ maxLen := by unfold maxLen; omega
  unfold choB midB midC
  refine PC.intro tab_ok Tryz.func162 rfl (by kernel_rfl) Tryz.ntmps162 (Nat.le_of_ble_eq_true rfl) (rs := _) (congrArg Array.toList Tryz.results162) ?_
  refine PW.draw tab_ok mixed [] [(0, []), (1, []), (2, []), (3, []), (4, []), (5, []), (6, [0, 1, 4]), (7, []), (8, [0, 1, 5]), (9, []), (10, []), (11, [])] (by kernel_rfl) fun K hK => ?_
  simp only [go_sem, ↓reduceIte, reduceCtorEq, Nat.reduceBEq, Nat.reduceAdd, Nat.reduceMul, Nat.reduceSub, Nat.reduceLT, Nat.reduceLeDiff, Nat.reduceEqDiff]
  refine (item_pc h hd).use 0 rfl (Weaks.refl _) rfl ?_
  refine ⟨?_, ?_, ?_, GO.go tab_ok ?_⟩
  · simp only [go_sem, ↓reduceIte, reduceCtorEq, Nat.reduceBEq, Nat.reduceAdd, Nat.reduceMul, Nat.reduceSub, Nat.reduceLT, Nat.reduceLeDiff, Nat.reduceEqDiff]
  · simp only [go_sem, ↓reduceIte, reduceCtorEq, Nat.reduceBEq, Nat.reduceAdd, Nat.reduceMul, Nat.reduceSub, Nat.reduceLT, Nat.reduceLeDiff, Nat.reduceEqDiff]
  · simp only [go_sem, ↓reduceIte, reduceCtorEq, Nat.reduceBEq, Nat.reduceAdd, Nat.reduceMul, Nat.reduceSub, Nat.reduceLT, Nat.reduceLeDiff, Nat.reduceEqDiff]
  simp only [itPV, hfit, hmax, go_sem, ↓reduceIte, reduceCtorEq, Nat.reduceBEq, Nat.reduceAdd, Nat.reduceMul, Nat.reduceSub, Nat.reduceLT, Nat.reduceLeDiff, Nat.reduceEqDiff]
  (refine hK _ _ ?_; (try clear hK); (try clear K))
  exact Ends.all (.inr rfl) (by simp [choOne, itPV]) (mid_good ⟨rfl, rfl, rfl⟩ ⟨rfl, rfl, by simp [PV.clean, clean_map (it_clean 4 1)]⟩ _) (by simp) (by simp)
theorem itemM_bad {r : R} (h : r.c ≠ 0) : (itemM r).2.c ≠ 0 := by
  simp only [itemM, passM_bad h]
  exact exprM_bad h
theorem cho_reads : Reads (List Itm) 162 [.ref 3 0, .ref 2 0] choOne choB (fun s => [s.length]) (fun m q s => q.ok ∧ q.d = 0 ∧ s.length + m ≤ 100) 3 1 where
  pc := fun m q s h => chooseIn_pc h.1 h.2.1 (by omega)
  nb := fun _ => rfl
  nl := fun _ => rfl
  ok := fun m q s h => h.1
  aft := fun m q s h => itemM_ok h.1
  good := fun s q => mid_good ⟨rfl, rfl, rfl⟩ ⟨rfl, rfl, by simp [PV.clean, clean_map (it_clean 4 1)]⟩ q
  next := fun m q s h => ⟨hasM_ok (itemM_ok h.1), by rw [hasM_d]; exact (itemM_d q).trans h.2.1, by simp [choOne]; omega⟩
  fail := fun q s h => ⟨failM_ok h.1 2, by rw [failM_d, h.2.1], h.2.2⟩
  bad := fun q s h hc => itemM_bad hc
/-- What a join is of, its ON. -/
def joinM (r : R) : (Str × Option Ex) × R :=
  if (hasM [74, 79, 73, 78] r).1 then (((nameM (hasM [74, 79, 73, 78] r).2).1, some (exprM (mustM [[79, 78]] (nameM (hasM [74, 79, 73, 78] r).2).2)).1), (exprM (mustM [[79, 78]] (nameM (hasM [74, 79, 73, 78] r).2).2)).2)
  else (([], none), (hasM [74, 79, 73, 78] r).2)
theorem joinM_ok {r : R} (h : r.ok) : (joinM r).2.ok := by
  unfold joinM
  split
  · exact exprM_sh.ok _ (mustM_ok (nameM_ok (hasM_ok h)))
  · exact hasM_ok h
theorem joinM_d (r : R) : (joinM r).2.d = r.d := by
  unfold joinM
  split
  · rw [exprM_sh.dd, mustM_d, nameM_d, hasM_d]
  · exact hasM_d _ _
def descM (o : Option Ex) (r : R) : Bool × R := match o with
  | some _ => hasM [68, 69, 83, 67] r
  | none => (false, r)
theorem descM_ok {o : Option Ex} {r : R} (h : r.ok) : (descM o r).2.ok := by
  cases o
  · exact h
  · exact hasM_ok h
theorem descM_d (o : Option Ex) (r : R) : (descM o r).2.d = r.d := by
  cases o
  · rfl
  · exact hasM_d _ _
def limM (r : R) : Int × R := if (hasM [76, 73, 77, 73, 84] r).1 then ((takeM 3 (hasM [76, 73, 77, 73, 84] r).2).1.num, (takeM 3 (hasM [76, 73, 77, 73, 84] r).2).2) else (-1, (hasM [76, 73, 77, 73, 84] r).2)
theorem limM_ok {r : R} (h : r.ok) : (limM r).2.ok := by
  unfold limM
  split
  · exact takeM_ok (by decide) (hasM_ok h)
  · exact hasM_ok h
theorem limM_d (r : R) : (limM r).2.d = r.d := by
  unfold limM
  split
  · rw [takeM_d, hasM_d]
  · exact hasM_d _ _
def chooseM (r : R) : Stm × R :=
  let z := manyM choOne 8 (r, [])
  let t := nameM (mustM [[70, 82, 79, 77]] z.1)
  let j := joinM t.2
  let w := maybeM [87, 72, 69, 82, 69] j.2
  let g := byM [71, 82, 79, 85, 80] w.2
  let o := byM [79, 82, 68, 69, 82] g.2
  let d := descM o.1 o.2
  let l := limM d.2
  (⟨6, t.1, [], [], [], [], z.2, j.1.1, j.1.2.toList, w.1.toList, g.1.toList, o.1.toList, d.1, l.1⟩, l.2)
theorem chooseM_ok {r : R} (h : r.ok) : (chooseM r).2.ok := limM_ok (descM_ok (byM_ok (byM_ok (maybeM_ok (joinM_ok (nameM_ok (mustM_ok (many_ok (fun q s h => itemM_ok h) 8 _ _ h))))))))
theorem chooseM_d (r : R) : (chooseM r).2.d = r.d := by
  simp only [chooseM]
  rw [limM_d, descM_d, byM_d, byM_d, maybeM_d, joinM_d, nameM_d, mustM_d, many_d (fun q s => itemM_d q)]
/-- The statement, when so much is read. -/
def selC (t : Str) (items : List Itm) (j : Str) (on w g o : Option Ex) (d : Bool) (l : Int) : List PV :=
  [.int .i64 6, .str t, nilPV, .str [], nilPV, nilPV, .list 2 (items.map itPV) .no, .str j, optPV on, optPV w, optPV g, optPV o, .bool d, .int .i64 l]
set_option maxHeartbeats 2000000 in
theorem choose_pc {r : R} (h : r.ok) (hd : r.d = 0) : TwoS 110 r 6 (chooseM r).1 (chooseM r).2 := by
  have hz : chooseM r = chooseM r := rfl
  conv at hz => rhs; unfold chooseM
  simp only at hz
  unfold TwoS
  refine PC.intro tab_ok Tryz.func110 rfl (by kernel_rfl) Tryz.ntmps110 (Nat.le_of_ble_eq_true rfl) (rs := _) (congrArg Array.toList Tryz.results110) ?_
  (repeat (refine PW.go tab_ok [] fun K hK => ?_; simp only [go_sem, ↓reduceIte, reduceCtorEq, Nat.reduceBEq, Nat.reduceAdd, Nat.reduceMul, Nat.reduceSub, Nat.reduceLT, Nat.reduceLeDiff, Nat.reduceEqDiff]; (refine hK _ _ ?_; clear hK K)))
  refine PW.adopt ?_
  refine PW.forget [(3, .ref 3 0), (2, .ref 2 0), (1, .ref 1 0), (0, .ref 0 0)] ⟨rPV r :: choB [], [0]⟩ (by simp [Sub, eget]) ⟨?_, rfl, (cho_reads.good [] r).clean⟩ rfl (Nat.le_refl _) (Nat.le_refl _) ?_
  · simp [stC0, choB, midB, midC, nilPV, Weaks.refl, Weak.nil, PV.isCell, r_all, rPV, rdPV]
  refine PW.go tab_ok [] fun K hK => ?_
  simp only [choB, midB, go_sem, ↓reduceIte, reduceCtorEq, Nat.reduceBEq, Nat.reduceAdd, Nat.reduceMul, Nat.reduceSub, Nat.reduceLT, Nat.reduceLeDiff, Nat.reduceEqDiff]
  refine (many_pc cho_reads 8 (by omega) (q0 := r) (s0 := []) ⟨h, hd, by simp⟩ rfl).mono ?_
  rintro x st' ⟨rfl, rfl⟩
  have h1 := many_ok (one := choOne) (fun q s h => itemM_ok h) 8 r [] h
  have hd1 : (manyM choOne 8 (r, [])).1.d = 0 := by rw [many_d (one := choOne) (fun q s => itemM_d q), hd]
  generalize manyM choOne 8 (r, []) = z at h1 hd1 hz ⊢
  obtain ⟨q1, is⟩ := z
  simp only at h1 hd1 hz ⊢
  refine PO.go tab_ok [] ?_
  simp only [choB, midB, midC, go_sem, ↓reduceIte, reduceCtorEq, Nat.reduceBEq, Nat.reduceAdd, Nat.reduceMul, Nat.reduceSub, Nat.reduceLT, Nat.reduceLeDiff, Nat.reduceEqDiff]
  (refine hK _ _ ?_; (try clear hK); (try clear K))
  have hgood : ∀ (q : R) (t : Str) (j : Str) (on w g o : Option Ex) (d : Bool) (l : Int), StOk ⟨[rPV q, selC t is j on w g o d l, [.ref 0 0], [.ref 1 0]], [is.length]⟩ := by
    intro q t j on w g o d l
    refine StOk.mk' fun cs hc => ?_
    simp only [List.mem_cons, List.not_mem_nil, or_false] at hc
    rcases hc with rfl | rfl | rfl | rfl
    · exact ⟨r_all q, PVs.clean_data (r_clean q)⟩
    · refine ⟨by simp only [selC, List.all_cons, List.all_nil, opt_isCell]; rfl, ?_⟩
      simp only [selC, PVs.clean, PV.clean, clean_map (it_clean _ _), PV.clean_data (opt_clean on), PV.clean_data (opt_clean w), PV.clean_data (opt_clean g), PV.clean_data (opt_clean o)]
      rfl
    · exact ⟨rfl, rfl⟩
    · exact ⟨rfl, rfl⟩
  refine PW.forget [(3, .ref 3 0), (2, .ref 2 0)] ⟨[rPV q1, selC [] is [] none none none none false (-1), [.ref 0 0], [.ref 1 0]], [is.length]⟩ (by simp [Sub, eget]) ⟨?_, rfl, (hgood _ _ _ _ _ _ _ _ _).clean⟩ rfl (Nat.le_refl _) (Nat.le_refl _) ?_
  · simp [selC, optPV, nilPV, Weaks.refl, Weak.no, PV.isCell, r_all, rPV, rdPV]
  unfold selC
  refine PW.go tab_ok [] fun K hK => ?_
  simp only [go_sem, ↓reduceIte, reduceCtorEq, Nat.reduceBEq, Nat.reduceAdd, Nat.reduceMul, Nat.reduceSub, Nat.reduceLT, Nat.reduceLeDiff, Nat.reduceEqDiff]
  refine (must_pc (ls := [[70, 82, 79, 77]]) (by decide) h1).use 0 rfl (Weaks.refl _) rfl ?_; refine PO.go tab_ok [] ?_
  simp only [go_sem, ↓reduceIte, reduceCtorEq, Nat.reduceBEq, Nat.reduceAdd, Nat.reduceMul, Nat.reduceSub, Nat.reduceLT, Nat.reduceLeDiff, Nat.reduceEqDiff]
  (refine hK _ _ ?_; (try clear hK); (try clear K))
  have h2 := mustM_ok (ls := [[70, 82, 79, 77]]) h1
  have hd2 : (mustM [[70, 82, 79, 77]] q1).d = 0 := by rw [mustM_d, hd1]
  generalize mustM [[70, 82, 79, 77]] q1 = q2 at h2 hd2 hz ⊢
  refine PW.draws tab_ok mixed [] [(0, []), (1, []), (2, [0]), (3, []), (4, []), (5, [])] (by kernel_rfl) fun K hK => ?_
  simp only [go_sem, ↓reduceIte, reduceCtorEq, Nat.reduceBEq, Nat.reduceAdd, Nat.reduceMul, Nat.reduceSub, Nat.reduceLT, Nat.reduceLeDiff, Nat.reduceEqDiff]
  refine (name_pc h2).use 0 rfl (Weaks.refl _) rfl ?_
  refine ⟨?_, GO.go tab_ok ?_⟩
  · simp only [go_sem, ↓reduceIte, reduceCtorEq, Nat.reduceBEq, Nat.reduceAdd, Nat.reduceMul, Nat.reduceSub, Nat.reduceLT, Nat.reduceLeDiff, Nat.reduceEqDiff]
  simp only [go_sem, ↓reduceIte, reduceCtorEq, Nat.reduceBEq, Nat.reduceAdd, Nat.reduceMul, Nat.reduceSub, Nat.reduceLT, Nat.reduceLeDiff, Nat.reduceEqDiff]
  (refine hK _ _ ?_; (try clear hK); (try clear K))
  have h3 := nameM_ok h2
  have hd3 : (nameM q2).2.d = 0 := by rw [nameM_d, hd2]
  generalize nameM q2 = z at h3 hd3 hz ⊢
  obtain ⟨t, q3⟩ := z
  simp only at h3 hd3 hz ⊢
  refine PW.seq_k fun K0 hK0 => ?_
  have hw : ∀ {env : Env} {st : St}, Sub env [(3, .ref 3 0), (2, .ref 2 0)] → st = ⟨[rPV (joinM q3).2, selC t is (joinM q3).1.1 (joinM q3).1.2 none none none false (-1), [.ref 0 0], [.ref 1 0]], [is.length]⟩ → K0 env st := by
    rintro env st hsub rfl
    refine hK0 _ _ (PW.less _ hsub ?_)
    clear hK0 K0
    have h4 := joinM_ok h3
    have hd4 : (joinM q3).2.d = 0 := by rw [joinM_d, hd3]
    generalize joinM q3 = z at h4 hd4 hz ⊢
    obtain ⟨⟨j, on⟩, q4⟩ := z
    simp only at h4 hd4 hz ⊢
    unfold selC
    refine PW.draws tab_ok mixed [] [(0, []), (1, []), (2, [0]), (3, []), (4, []), (5, [])] (by kernel_rfl) fun K hK => ?_
    simp only [go_sem, ↓reduceIte, reduceCtorEq, Nat.reduceBEq, Nat.reduceAdd, Nat.reduceMul, Nat.reduceSub, Nat.reduceLT, Nat.reduceLeDiff, Nat.reduceEqDiff]
    refine (maybe_pc (w := [87, 72, 69, 82, 69]) h4 hd4).use 0 rfl (Weaks.refl _) rfl ?_
    refine ⟨?_, GO.go tab_ok ?_⟩
    · simp only [go_sem, ↓reduceIte, reduceCtorEq, Nat.reduceBEq, Nat.reduceAdd, Nat.reduceMul, Nat.reduceSub, Nat.reduceLT, Nat.reduceLeDiff, Nat.reduceEqDiff]
    simp only [go_sem, ↓reduceIte, reduceCtorEq, Nat.reduceBEq, Nat.reduceAdd, Nat.reduceMul, Nat.reduceSub, Nat.reduceLT, Nat.reduceLeDiff, Nat.reduceEqDiff]
    (refine hK _ _ ?_; (try clear hK); (try clear K))
    have h5 := maybeM_ok (w := [87, 72, 69, 82, 69]) h4
    have hd5 : (maybeM [87, 72, 69, 82, 69] q4).2.d = 0 := by rw [maybeM_d, hd4]
    generalize maybeM [87, 72, 69, 82, 69] q4 = z at h5 hd5 hz ⊢
    obtain ⟨w, q5⟩ := z
    simp only at h5 hd5 hz ⊢
    refine PW.draws tab_ok mixed [] [(0, []), (1, []), (2, [0]), (3, []), (4, []), (5, [])] (by kernel_rfl) fun K hK => ?_
    simp only [go_sem, ↓reduceIte, reduceCtorEq, Nat.reduceBEq, Nat.reduceAdd, Nat.reduceMul, Nat.reduceSub, Nat.reduceLT, Nat.reduceLeDiff, Nat.reduceEqDiff]
    refine (by_pc (w := [71, 82, 79, 85, 80]) h5).use 0 rfl (Weaks.refl _) rfl ?_
    refine ⟨?_, GO.go tab_ok ?_⟩
    · simp only [go_sem, ↓reduceIte, reduceCtorEq, Nat.reduceBEq, Nat.reduceAdd, Nat.reduceMul, Nat.reduceSub, Nat.reduceLT, Nat.reduceLeDiff, Nat.reduceEqDiff]
    simp only [go_sem, ↓reduceIte, reduceCtorEq, Nat.reduceBEq, Nat.reduceAdd, Nat.reduceMul, Nat.reduceSub, Nat.reduceLT, Nat.reduceLeDiff, Nat.reduceEqDiff]
    (refine hK _ _ ?_; (try clear hK); (try clear K))
    have h6 := byM_ok (w := [71, 82, 79, 85, 80]) h5
    generalize byM [71, 82, 79, 85, 80] q5 = z at h6 hz ⊢
    obtain ⟨g, q6⟩ := z
    simp only at h6 hz ⊢
    refine PW.seq_k fun K0 hK0 => ?_
    refine PW.draws tab_ok mixed [] [(0, []), (1, []), (2, [0]), (3, []), (4, []), (5, [])] (by kernel_rfl) fun K hK => ?_
    simp only [go_sem, ↓reduceIte, reduceCtorEq, Nat.reduceBEq, Nat.reduceAdd, Nat.reduceMul, Nat.reduceSub, Nat.reduceLT, Nat.reduceLeDiff, Nat.reduceEqDiff]
    refine (by_pc (w := [79, 82, 68, 69, 82]) h6).use 0 rfl (Weaks.refl _) rfl ?_
    refine ⟨?_, GO.go tab_ok ?_⟩
    · simp only [go_sem, ↓reduceIte, reduceCtorEq, Nat.reduceBEq, Nat.reduceAdd, Nat.reduceMul, Nat.reduceSub, Nat.reduceLT, Nat.reduceLeDiff, Nat.reduceEqDiff]
    simp only [go_sem, ↓reduceIte, reduceCtorEq, Nat.reduceBEq, Nat.reduceAdd, Nat.reduceMul, Nat.reduceSub, Nat.reduceLT, Nat.reduceLeDiff, Nat.reduceEqDiff]
    (refine hK _ _ ?_; (try clear hK); (try clear K))
    have h7 := byM_ok (w := [79, 82, 68, 69, 82]) h6
    generalize byM [79, 82, 68, 69, 82] q6 = z at h7 hz ⊢
    obtain ⟨o, q7⟩ := z
    simp only at h7 hz ⊢
    have hl : ∀ {env : Env} {st : St}, Sub env [(3, .ref 3 0), (2, .ref 2 0)] → st = ⟨[rPV (descM o q7).2, selC t is j on w g o (descM o q7).1 (-1), [.ref 0 0], [.ref 1 0]], [is.length]⟩ → K0 env st := by
      rintro env st hsub rfl
      refine hK0 _ _ (PW.less _ hsub ?_)
      clear hK0 K0
      have h8 := descM_ok (o := o) h7
      generalize descM o q7 = z at h8 hz ⊢
      obtain ⟨d, q8⟩ := z
      simp only at h8 hz ⊢
      unfold selC
      refine PW.go tab_ok [] fun K hK => ?_
      simp only [go_sem, ↓reduceIte, reduceCtorEq, Nat.reduceBEq, Nat.reduceAdd, Nat.reduceMul, Nat.reduceSub, Nat.reduceLT, Nat.reduceLeDiff, Nat.reduceEqDiff]
      refine (has_pc (s := [76, 73, 77, 73, 84]) h8).use 0 rfl (Weaks.refl _) rfl ?_; refine PO.go tab_ok [] ?_
      simp only [go_sem, ↓reduceIte, reduceCtorEq, Nat.reduceBEq, Nat.reduceAdd, Nat.reduceMul, Nat.reduceSub, Nat.reduceLT, Nat.reduceLeDiff, Nat.reduceEqDiff]
      (refine hK _ _ ?_; (try clear hK); (try clear K))
      refine PW.cond_split (b := (hasM [76, 73, 77, 73, 84] q8).1) rfl ?_ ?_ <;> intro hb
      · have hlim : limM q8 = ((takeM 3 (hasM [76, 73, 77, 73, 84] q8).2).1.num, (takeM 3 (hasM [76, 73, 77, 73, 84] q8).2).2) := by simp [limM, hb]
        refine PW.draw tab_ok mixed [] [(0, []), (1, []), (2, [0]), (3, []), (4, []), (5, []), (6, [])] (by kernel_rfl) fun K hK => ?_
        simp only [go_sem, ↓reduceIte, reduceCtorEq, Nat.reduceBEq, Nat.reduceAdd, Nat.reduceMul, Nat.reduceSub, Nat.reduceLT, Nat.reduceLeDiff, Nat.reduceEqDiff]
        refine (take_pc (k := 3) (hasM_ok h8)).use 0 rfl (Weaks.refl _) rfl ?_
        refine ⟨?_, GO.go tab_ok ?_⟩
        · simp only [go_sem, ↓reduceIte, reduceCtorEq, Nat.reduceBEq, Nat.reduceAdd, Nat.reduceMul, Nat.reduceSub, Nat.reduceLT, Nat.reduceLeDiff, Nat.reduceEqDiff]
        simp only [tokPV, go_sem, ↓reduceIte, reduceCtorEq, Nat.reduceBEq, Nat.reduceAdd, Nat.reduceMul, Nat.reduceSub, Nat.reduceLT, Nat.reduceLeDiff, Nat.reduceEqDiff]
        (refine hK _ _ ?_; (try clear hK); (try clear K))
        rw [hz, hlim]
        refine TwoS.fin (.inr rfl) ?_
        (repeat (first | exact .nil | refine .cons (by first | exact .refl _ | exact Weak.nil _ _ _ | exact Weak.no _ _ _ | exact opt_weak _) ?_))
      · have hlim : limM q8 = (-1, (hasM [76, 73, 77, 73, 84] q8).2) := by simp [limM, hb]
        refine PW.skip ?_
        rw [hz, hlim]
        refine TwoS.fin (.inr rfl) ?_
        (repeat (first | exact .nil | refine .cons (by first | exact .refl _ | exact Weak.nil _ _ _ | exact Weak.no _ _ _ | exact opt_weak _) ?_))
    unfold selC at hl
    refine PW.go tab_ok [] fun K hK => ?_
    cases o with
    | none =>
      simp only [optPV, nilPV, fNil0, isNilC, nilness, Bool.not_true, go_sem, ↓reduceIte, reduceCtorEq, Nat.reduceBEq, Nat.reduceAdd, Nat.reduceMul, Nat.reduceSub, Nat.reduceLT, Nat.reduceLeDiff, Nat.reduceEqDiff]
      (refine hK _ _ ?_; (try clear hK); (try clear K))
      refine PW.cond_split (b := false) rfl ?_ ?_ <;> intro hb
      · cases hb
      · exact PW.skip (hl (by simp [Sub, eget]) rfl)
    | some e =>
      simp only [optPV, nilPV, fNil0, isNilC, nilness, Bool.not_false, go_sem, ↓reduceIte, reduceCtorEq, Nat.reduceBEq, Nat.reduceAdd, Nat.reduceMul, Nat.reduceSub, Nat.reduceLT, Nat.reduceLeDiff, Nat.reduceEqDiff]
      (refine hK _ _ ?_; (try clear hK); (try clear K))
      refine PW.cond_split (b := true) rfl ?_ ?_ <;> intro hb
      · refine PW.draw tab_ok mixed [] [(0, []), (1, []), (2, [0]), (3, []), (4, []), (5, [])] (by kernel_rfl) fun K hK => ?_
        simp only [go_sem, ↓reduceIte, reduceCtorEq, Nat.reduceBEq, Nat.reduceAdd, Nat.reduceMul, Nat.reduceSub, Nat.reduceLT, Nat.reduceLeDiff, Nat.reduceEqDiff]
        refine (has_pc (s := [68, 69, 83, 67]) h7).use 0 rfl (Weaks.refl _) rfl ?_
        refine ⟨?_, GO.go tab_ok ?_⟩
        · simp only [go_sem, ↓reduceIte, reduceCtorEq, Nat.reduceBEq, Nat.reduceAdd, Nat.reduceMul, Nat.reduceSub, Nat.reduceLT, Nat.reduceLeDiff, Nat.reduceEqDiff]
        simp only [go_sem, ↓reduceIte, reduceCtorEq, Nat.reduceBEq, Nat.reduceAdd, Nat.reduceMul, Nat.reduceSub, Nat.reduceLT, Nat.reduceLeDiff, Nat.reduceEqDiff]
        (refine hK _ _ ?_; (try clear hK); (try clear K))
        exact hl (by simp [Sub, eget]) rfl
      · cases hb
  refine PW.go tab_ok [] fun K hK => ?_
  simp only [go_sem, ↓reduceIte, reduceCtorEq, Nat.reduceBEq, Nat.reduceAdd, Nat.reduceMul, Nat.reduceSub, Nat.reduceLT, Nat.reduceLeDiff, Nat.reduceEqDiff]
  refine (has_pc (s := [74, 79, 73, 78]) h3).use 0 rfl (Weaks.refl _) rfl ?_; refine PO.go tab_ok [] ?_
  simp only [go_sem, ↓reduceIte, reduceCtorEq, Nat.reduceBEq, Nat.reduceAdd, Nat.reduceMul, Nat.reduceSub, Nat.reduceLT, Nat.reduceLeDiff, Nat.reduceEqDiff]
  (refine hK _ _ ?_; (try clear hK); (try clear K))
  refine PW.cond_split (b := (hasM [74, 79, 73, 78] q3).1) rfl ?_ ?_ <;> intro hb
  · have hj : joinM q3 = (((nameM (hasM [74, 79, 73, 78] q3).2).1, some (exprM (mustM [[79, 78]] (nameM (hasM [74, 79, 73, 78] q3).2).2)).1), (exprM (mustM [[79, 78]] (nameM (hasM [74, 79, 73, 78] q3).2).2)).2) := by simp [joinM, hb]
    have h4 := hasM_ok (s := [74, 79, 73, 78]) h3
    have hd4 : (hasM [74, 79, 73, 78] q3).2.d = 0 := by rw [hasM_d, hd3]
    refine PW.draws tab_ok mixed [] [(0, []), (1, []), (2, [0]), (3, []), (4, []), (5, [])] (by kernel_rfl) fun K hK => ?_
    simp only [go_sem, ↓reduceIte, reduceCtorEq, Nat.reduceBEq, Nat.reduceAdd, Nat.reduceMul, Nat.reduceSub, Nat.reduceLT, Nat.reduceLeDiff, Nat.reduceEqDiff]
    refine (name_pc h4).use 0 rfl (Weaks.refl _) rfl ?_
    refine ⟨?_, GO.go tab_ok ?_⟩
    · simp only [go_sem, ↓reduceIte, reduceCtorEq, Nat.reduceBEq, Nat.reduceAdd, Nat.reduceMul, Nat.reduceSub, Nat.reduceLT, Nat.reduceLeDiff, Nat.reduceEqDiff]
    simp only [go_sem, ↓reduceIte, reduceCtorEq, Nat.reduceBEq, Nat.reduceAdd, Nat.reduceMul, Nat.reduceSub, Nat.reduceLT, Nat.reduceLeDiff, Nat.reduceEqDiff]
    (refine hK _ _ ?_; (try clear hK); (try clear K))
    have h5 := nameM_ok h4
    have hd5 : (nameM (hasM [74, 79, 73, 78] q3).2).2.d = 0 := by rw [nameM_d, hd4]
    refine PW.go tab_ok [] fun K hK => ?_
    simp only [go_sem, ↓reduceIte, reduceCtorEq, Nat.reduceBEq, Nat.reduceAdd, Nat.reduceMul, Nat.reduceSub, Nat.reduceLT, Nat.reduceLeDiff, Nat.reduceEqDiff]
    refine (must_pc (ls := [[79, 78]]) (by decide) h5).use 0 rfl (Weaks.refl _) rfl ?_; refine PO.go tab_ok [] ?_
    simp only [go_sem, ↓reduceIte, reduceCtorEq, Nat.reduceBEq, Nat.reduceAdd, Nat.reduceMul, Nat.reduceSub, Nat.reduceLT, Nat.reduceLeDiff, Nat.reduceEqDiff]
    (refine hK _ _ ?_; (try clear hK); (try clear K))
    refine PW.draw tab_ok mixed [] [(0, []), (1, []), (2, [0]), (3, []), (4, []), (5, []), (6, [])] (by kernel_rfl) fun K hK => ?_
    simp only [go_sem, ↓reduceIte, reduceCtorEq, Nat.reduceBEq, Nat.reduceAdd, Nat.reduceMul, Nat.reduceSub, Nat.reduceLT, Nat.reduceLeDiff, Nat.reduceEqDiff]
    refine (expr_pc (mustM_ok (ls := [[79, 78]]) h5) (by rw [mustM_d, hd5])).use 0 rfl (Weaks.refl _) rfl ?_
    refine ⟨?_, GO.go tab_ok ?_⟩
    · simp only [go_sem, ↓reduceIte, reduceCtorEq, Nat.reduceBEq, Nat.reduceAdd, Nat.reduceMul, Nat.reduceSub, Nat.reduceLT, Nat.reduceLeDiff, Nat.reduceEqDiff]
    simp only [go_sem, ↓reduceIte, reduceCtorEq, Nat.reduceBEq, Nat.reduceAdd, Nat.reduceMul, Nat.reduceSub, Nat.reduceLT, Nat.reduceLeDiff, Nat.reduceEqDiff]
    (refine hK _ _ ?_; (try clear hK); (try clear K))
    exact hw (by simp [Sub, eget]) (by rw [hj]; rfl)
  · have hj : joinM q3 = (([], none), (hasM [74, 79, 73, 78] q3).2) := by simp [joinM, hb]
    exact PW.skip (hw (by simp [Sub, eget]) (by rw [hj]; rfl))
end Go.Proofs.YtpepmfhemjeocaaGreatDoor
end
section
/- The parser's statements: one; a script. -/
set_option linter.unusedVariables false
set_option linter.unusedSimpArgs false
namespace Go.Proofs.YtpepmfhemjeocaaGreatDoor
open Go

theorem stC_len (s : Stm) : (stC s).length = 14 := rfl
theorem stC_take (s : Stm) : (stC s).take 14 = stC s := rfl
theorem stC_drop (s : Stm) : (stC s).drop 14 = [] := rfl
theorem stC_all (s : Stm) : (stC s).all PV.isCell = true := rfl
theorem agg_stC (s : Stm) : PV.agg (stC s) = stPV1 s := rfl
theorem stPV1_cells (s : Stm) : (stPV1 s).cells = stC s := rfl
theorem stPV1_isAgg (s : Stm) : (stPV1 s).isAgg = true := rfl
theorem stPV1_clean (n m : Nat) (s : Stm) : PV.clean n m (stPV1 s) = true := st_clean n m s
attribute [go_sem] stC_len stC_take stC_drop stC_all agg_stC stPV1_cells stPV1_isAgg
def stOps : List Str := [[67, 82, 69, 65, 84, 69], [68, 82, 79, 80], [73, 78, 83, 69, 82, 84], [85, 80, 68, 65, 84, 69], [68, 69, 76, 69, 84, 69], [83, 69, 76, 69, 67, 84]]
def stateM (r : R) : Stm × R :=
  if (passM stOps r).1 = -1 then (stm0 0, failM 4 (passM stOps r).2)
  else if (passM stOps r).1 = 0 then createM (passM stOps r).2
  else if (passM stOps r).1 = 1 then dropM (passM stOps r).2
  else if (passM stOps r).1 = 2 then insertM (passM stOps r).2
  else if (passM stOps r).1 = 3 then updateM (passM stOps r).2
  else if (passM stOps r).1 = 4 then removeM (passM stOps r).2
  else chooseM (passM stOps r).2
theorem dropM_d (r : R) : (dropM r).2.d = r.d := by simp only [dropM, nameM_d, mustM_d]
theorem removeM_d (r : R) : (removeM r).2.d = r.d := by simp only [removeM, maybeM_d, nameM_d, mustM_d]
theorem stateM_ok {r : R} (h : r.ok) : (stateM r).2.ok := by
  have h1 := passM_ok (ls := stOps) h
  unfold stateM
  (repeat' split)
  · exact failM_ok h1 4
  · exact createM_ok h1
  · exact dropM_ok h1
  · exact insertM_ok h1
  · exact updateM_ok h1
  · exact removeM_ok h1
  · exact chooseM_ok h1
theorem stateM_d (r : R) : (stateM r).2.d = r.d := by
  have h1 := passM_d stOps r
  unfold stateM
  rw [← h1]
  (repeat' split)
  · exact failM_d _ _
  · exact createM_d _
  · exact dropM_d _
  · exact insertM_d _
  · exact updateM_d _
  · exact removeM_d _
  · exact chooseM_d _
theorem passM_ge (ls : List Str) (r : R) : -1 ≤ (passM ls r).1 := by
  simp only [passM, isM]
  split
  · exact (idx_ge ls _).1
  · omega
theorem stateM_bad {r : R} (h : r.c ≠ 0) : stateM r = (stm0 0, r) := by simp [stateM, passM_bad h, failM_bad h]
def stZ : List PV := [.int .i64 0, .str [], nilPV, .str [], nilPV, nilPV, nilPV, .str [], nilPV, nilPV, nilPV, nilPV, .bool false, .int .i64 0]
set_option maxHeartbeats 1000000 in
theorem state_pc {r : R} (h : r.ok) (hd : r.d = 0) : OneM Tryz.prog 44 [] r (stPV1 (stateM r).1) (stateM r).2 := by
  have hz : stateM r = stateM r := rfl
  conv at hz => rhs; unfold stateM
  have h1 := passM_ok (ls := stOps) h
  have hd1 : (passM stOps r).2.d = 0 := by rw [passM_d, hd]
  have hhi : (passM stOps r).1 < 6 := passM_lt_len stOps r
  have hlo : -1 ≤ (passM stOps r).1 := passM_ge stOps r
  refine PC.intro tab_ok Tryz.func44 rfl (by kernel_rfl) Tryz.ntmps44 (Nat.le_of_ble_eq_true rfl) (rs := _) (congrArg Array.toList Tryz.results44) ?_
  (repeat (refine PW.go tab_ok [] fun K hK => ?_; simp only [go_sem, ↓reduceIte, reduceCtorEq, Nat.reduceBEq, Nat.reduceAdd, Nat.reduceMul, Nat.reduceSub, Nat.reduceLT, Nat.reduceLeDiff, Nat.reduceEqDiff]; (refine hK _ _ ?_; clear hK K)))
  refine PW.seq_k fun K0 hK0 => ?_
  refine PW.go tab_ok [] fun K hK => ?_
  simp only [go_sem, ↓reduceIte, reduceCtorEq, Nat.reduceBEq, Nat.reduceAdd, Nat.reduceMul, Nat.reduceSub, Nat.reduceLT, Nat.reduceLeDiff, Nat.reduceEqDiff]
  refine (pass_pc (ls := stOps) (by decide) h).use 0 rfl (Weaks.refl _) rfl ?_; refine PO.go tab_ok [] ?_
  simp only [go_sem, ↓reduceIte, reduceCtorEq, Nat.reduceBEq, Nat.reduceAdd, Nat.reduceMul, Nat.reduceSub, Nat.reduceLT, Nat.reduceLeDiff, Nat.reduceEqDiff]
  (refine hK _ _ ?_; (try clear hK); (try clear K))
  generalize passM stOps r = z at h1 hd1 hlo hhi hz ⊢
  obtain ⟨k, q⟩ := z
  simp only at h1 hd1 hlo hhi hz ⊢
  have hrest : ∀ {env : Env} {st : St} (S : Stm) (q' : R) (cs : List PV), Sub env [(0, .ref 0 0), (2, .ref 1 0), (3, .ref 2 0)] → st = ⟨[rPV q', stZ, cs], []⟩ → Weaks cs (stC S) → stateM r = (S, q') → K0 env st := by
    rintro env st S q' cs hsub rfl hwk he
    refine hK0 _ _ (PW.less _ hsub ?_)
    clear hK0 K0
    refine PW.forget [(0, .ref 0 0), (2, .ref 1 0), (3, .ref 2 0)] ⟨[rPV q', stZ, stC S], []⟩ (by simp [Sub, eget]) ⟨?_, rfl, ?_⟩ rfl (Nat.le_refl _) (Nat.le_refl _) ?_
    · simp only [List.length_cons, List.length_nil, List.take_succ_cons, List.take_zero, boxes_cons, boxes_nil, and_true]
      exact ⟨Weaks.refl _, fun c hc => List.all_eq_true.1 (r_all q') c hc, Weaks.refl _, fun c hc => List.all_eq_true.1 (show stZ.all PV.isCell = true from rfl) c hc, hwk, fun c hc => List.all_eq_true.1 (st_all S) c hc⟩
    · intro c hc
      simp only [List.mem_cons, List.not_mem_nil, or_false] at hc
      rcases hc with rfl | rfl | rfl
      · exact PVs.clean_data (r_clean q')
      · rfl
      · exact st_clean _ _ S
    unfold stZ
    refine PW.go tab_ok [] fun K hK => ?_
    simp only [go_sem, ↓reduceIte, reduceCtorEq, Nat.reduceBEq, Nat.reduceAdd, Nat.reduceMul, Nat.reduceSub, Nat.reduceLT, Nat.reduceLeDiff, Nat.reduceEqDiff]
    (refine hK _ _ ?_; (try clear hK); (try clear K))
    exact PW.ret (OneM.fin (r' := (stateM r).2) (.inl rfl) (res_cell (x := stPV1 S) rfl rfl (by simp only [go_sem, ↓reduceIte, reduceCtorEq, Nat.reduceBEq, Nat.reduceAdd, Nat.reduceMul, Nat.reduceSub, Nat.reduceLT, Nat.reduceLeDiff, Nat.reduceEqDiff])) (by rw [he]) (by rw [he]; exact .refl _) (stPV1_clean 0 0 _))
  refine PW.block ?_
  refine PW.go tab_ok [] fun K hK => ?_
  simp only [go_sem, ↓reduceIte, reduceCtorEq, Nat.reduceBEq, Nat.reduceAdd, Nat.reduceMul, Nat.reduceSub, Nat.reduceLT, Nat.reduceLeDiff, Nat.reduceEqDiff]
  (refine hK _ _ ?_; (try clear hK); (try clear K))
  refine PW.cond_split (b := k == -1) rfl ?_ ?_ <;> intro hbm
  · have hk : k = -1 := by simpa using hbm
    rw [if_pos hk] at hz
    refine PW.goL tab_ok [] fun K hK => ?_
    simp only [go_sem, ↓reduceIte, reduceCtorEq, Nat.reduceBEq, Nat.reduceAdd, Nat.reduceMul, Nat.reduceSub, Nat.reduceLT, Nat.reduceLeDiff, Nat.reduceEqDiff]
    refine (fail_pc' h1 4).use 0 rfl (Weaks.refl _) rfl ?_; refine PO.go tab_ok [] ?_
    simp only [go_sem, ↓reduceIte, reduceCtorEq, Nat.reduceBEq, Nat.reduceAdd, Nat.reduceMul, Nat.reduceSub, Nat.reduceLT, Nat.reduceLeDiff, Nat.reduceEqDiff]
    (refine hK _ _ ?_; (try clear hK); (try clear K))
    exact hrest (stm0 0) (failM 4 q) _ (by simp [Sub, eget]) rfl (by (repeat (first | exact .nil | refine .cons (by first | exact .refl _ | exact Weak.nil _ _ _ | exact Weak.no _ _ _ | exact opt_weak _) ?_))) hz
  have hkm : ¬ k = -1 := by simpa using hbm
  rw [if_neg hkm] at hz
  refine PW.go tab_ok [] fun K hK => ?_
  simp only [go_sem, ↓reduceIte, reduceCtorEq, Nat.reduceBEq, Nat.reduceAdd, Nat.reduceMul, Nat.reduceSub, Nat.reduceLT, Nat.reduceLeDiff, Nat.reduceEqDiff]
  (refine hK _ _ ?_; (try clear hK); (try clear K))
  refine PW.cond_split (b := k == 0) rfl ?_ ?_ <;> intro hb0
  · have hk : k = 0 := by simpa using hb0
    rw [if_pos hk] at hz
    refine PW.go tab_ok [] fun K hK => ?_
    simp only [go_sem, ↓reduceIte, reduceCtorEq, Nat.reduceBEq, Nat.reduceAdd, Nat.reduceMul, Nat.reduceSub, Nat.reduceLT, Nat.reduceLeDiff, Nat.reduceEqDiff]
    (refine hK _ _ ?_; (try clear hK); (try clear K))
    refine PW.goL tab_ok [] fun K hK => ?_
    simp only [go_sem, ↓reduceIte, reduceCtorEq, Nat.reduceBEq, Nat.reduceAdd, Nat.reduceMul, Nat.reduceSub, Nat.reduceLT, Nat.reduceLeDiff, Nat.reduceEqDiff]
    refine (create_pc h1).use 0 2 (by decide) rfl rfl ?_
    refine PO.go tab_ok [] ?_
    simp only [go_sem, ↓reduceIte, reduceCtorEq, Nat.reduceBEq, Nat.reduceAdd, Nat.reduceMul, Nat.reduceSub, Nat.reduceLT, Nat.reduceLeDiff, Nat.reduceEqDiff]
    (refine hK _ _ ?_; (try clear hK); (try clear K))
    exact hrest (createM q).1 (createM q).2 _ (by simp [Sub, eget]) rfl (Weaks.refl _) hz
  have hk0 : ¬ k = 0 := by simpa using hb0
  rw [if_neg hk0] at hz
  refine PW.go tab_ok [] fun K hK => ?_
  simp only [go_sem, ↓reduceIte, reduceCtorEq, Nat.reduceBEq, Nat.reduceAdd, Nat.reduceMul, Nat.reduceSub, Nat.reduceLT, Nat.reduceLeDiff, Nat.reduceEqDiff]
  (refine hK _ _ ?_; (try clear hK); (try clear K))
  refine PW.cond_split (b := k == 1) rfl ?_ ?_ <;> intro hb1
  · have hk : k = 1 := by simpa using hb1
    rw [if_pos hk] at hz
    refine PW.go tab_ok [] fun K hK => ?_
    simp only [go_sem, ↓reduceIte, reduceCtorEq, Nat.reduceBEq, Nat.reduceAdd, Nat.reduceMul, Nat.reduceSub, Nat.reduceLT, Nat.reduceLeDiff, Nat.reduceEqDiff]
    (refine hK _ _ ?_; (try clear hK); (try clear K))
    refine PW.goL tab_ok [] fun K hK => ?_
    simp only [go_sem, ↓reduceIte, reduceCtorEq, Nat.reduceBEq, Nat.reduceAdd, Nat.reduceMul, Nat.reduceSub, Nat.reduceLT, Nat.reduceLeDiff, Nat.reduceEqDiff]
    refine (drop_pc h1).use 0 2 (by decide) rfl rfl ?_
    refine PO.go tab_ok [] ?_
    simp only [go_sem, ↓reduceIte, reduceCtorEq, Nat.reduceBEq, Nat.reduceAdd, Nat.reduceMul, Nat.reduceSub, Nat.reduceLT, Nat.reduceLeDiff, Nat.reduceEqDiff]
    (refine hK _ _ ?_; (try clear hK); (try clear K))
    exact hrest (dropM q).1 (dropM q).2 _ (by simp [Sub, eget]) rfl (Weaks.refl _) hz
  have hk1 : ¬ k = 1 := by simpa using hb1
  rw [if_neg hk1] at hz
  refine PW.go tab_ok [] fun K hK => ?_
  simp only [go_sem, ↓reduceIte, reduceCtorEq, Nat.reduceBEq, Nat.reduceAdd, Nat.reduceMul, Nat.reduceSub, Nat.reduceLT, Nat.reduceLeDiff, Nat.reduceEqDiff]
  (refine hK _ _ ?_; (try clear hK); (try clear K))
  refine PW.cond_split (b := k == 2) rfl ?_ ?_ <;> intro hb2
  · have hk : k = 2 := by simpa using hb2
    rw [if_pos hk] at hz
    refine PW.go tab_ok [] fun K hK => ?_
    simp only [go_sem, ↓reduceIte, reduceCtorEq, Nat.reduceBEq, Nat.reduceAdd, Nat.reduceMul, Nat.reduceSub, Nat.reduceLT, Nat.reduceLeDiff, Nat.reduceEqDiff]
    (refine hK _ _ ?_; (try clear hK); (try clear K))
    refine PW.goL tab_ok [] fun K hK => ?_
    simp only [go_sem, ↓reduceIte, reduceCtorEq, Nat.reduceBEq, Nat.reduceAdd, Nat.reduceMul, Nat.reduceSub, Nat.reduceLT, Nat.reduceLeDiff, Nat.reduceEqDiff]
    refine (insert_pc h1).use 0 2 (by decide) rfl rfl ?_
    refine PO.go tab_ok [] ?_
    simp only [go_sem, ↓reduceIte, reduceCtorEq, Nat.reduceBEq, Nat.reduceAdd, Nat.reduceMul, Nat.reduceSub, Nat.reduceLT, Nat.reduceLeDiff, Nat.reduceEqDiff]
    (refine hK _ _ ?_; (try clear hK); (try clear K))
    exact hrest (insertM q).1 (insertM q).2 _ (by simp [Sub, eget]) rfl (Weaks.refl _) hz
  have hk2 : ¬ k = 2 := by simpa using hb2
  rw [if_neg hk2] at hz
  refine PW.go tab_ok [] fun K hK => ?_
  simp only [go_sem, ↓reduceIte, reduceCtorEq, Nat.reduceBEq, Nat.reduceAdd, Nat.reduceMul, Nat.reduceSub, Nat.reduceLT, Nat.reduceLeDiff, Nat.reduceEqDiff]
  (refine hK _ _ ?_; (try clear hK); (try clear K))
  refine PW.cond_split (b := k == 3) rfl ?_ ?_ <;> intro hb3
  · have hk : k = 3 := by simpa using hb3
    rw [if_pos hk] at hz
    refine PW.go tab_ok [] fun K hK => ?_
    simp only [go_sem, ↓reduceIte, reduceCtorEq, Nat.reduceBEq, Nat.reduceAdd, Nat.reduceMul, Nat.reduceSub, Nat.reduceLT, Nat.reduceLeDiff, Nat.reduceEqDiff]
    (refine hK _ _ ?_; (try clear hK); (try clear K))
    refine PW.goL tab_ok [] fun K hK => ?_
    simp only [go_sem, ↓reduceIte, reduceCtorEq, Nat.reduceBEq, Nat.reduceAdd, Nat.reduceMul, Nat.reduceSub, Nat.reduceLT, Nat.reduceLeDiff, Nat.reduceEqDiff]
    refine (update_pc h1 hd1).use 0 2 (by decide) rfl rfl ?_
    refine PO.go tab_ok [] ?_
    simp only [go_sem, ↓reduceIte, reduceCtorEq, Nat.reduceBEq, Nat.reduceAdd, Nat.reduceMul, Nat.reduceSub, Nat.reduceLT, Nat.reduceLeDiff, Nat.reduceEqDiff]
    (refine hK _ _ ?_; (try clear hK); (try clear K))
    exact hrest (updateM q).1 (updateM q).2 _ (by simp [Sub, eget]) rfl (Weaks.refl _) hz
  have hk3 : ¬ k = 3 := by simpa using hb3
  rw [if_neg hk3] at hz
  refine PW.go tab_ok [] fun K hK => ?_
  simp only [go_sem, ↓reduceIte, reduceCtorEq, Nat.reduceBEq, Nat.reduceAdd, Nat.reduceMul, Nat.reduceSub, Nat.reduceLT, Nat.reduceLeDiff, Nat.reduceEqDiff]
  (refine hK _ _ ?_; (try clear hK); (try clear K))
  refine PW.cond_split (b := k == 4) rfl ?_ ?_ <;> intro hb4
  · have hk : k = 4 := by simpa using hb4
    rw [if_pos hk] at hz
    refine PW.go tab_ok [] fun K hK => ?_
    simp only [go_sem, ↓reduceIte, reduceCtorEq, Nat.reduceBEq, Nat.reduceAdd, Nat.reduceMul, Nat.reduceSub, Nat.reduceLT, Nat.reduceLeDiff, Nat.reduceEqDiff]
    (refine hK _ _ ?_; (try clear hK); (try clear K))
    refine PW.goL tab_ok [] fun K hK => ?_
    simp only [go_sem, ↓reduceIte, reduceCtorEq, Nat.reduceBEq, Nat.reduceAdd, Nat.reduceMul, Nat.reduceSub, Nat.reduceLT, Nat.reduceLeDiff, Nat.reduceEqDiff]
    refine (remove_pc h1 hd1).use 0 2 (by decide) rfl rfl ?_
    refine PO.go tab_ok [] ?_
    simp only [go_sem, ↓reduceIte, reduceCtorEq, Nat.reduceBEq, Nat.reduceAdd, Nat.reduceMul, Nat.reduceSub, Nat.reduceLT, Nat.reduceLeDiff, Nat.reduceEqDiff]
    (refine hK _ _ ?_; (try clear hK); (try clear K))
    exact hrest (removeM q).1 (removeM q).2 _ (by simp [Sub, eget]) rfl (Weaks.refl _) hz
  have hk4 : ¬ k = 4 := by simpa using hb4
  rw [if_neg hk4] at hz
  refine PW.go tab_ok [] fun K hK => ?_
  simp only [go_sem, ↓reduceIte, reduceCtorEq, Nat.reduceBEq, Nat.reduceAdd, Nat.reduceMul, Nat.reduceSub, Nat.reduceLT, Nat.reduceLeDiff, Nat.reduceEqDiff]
  (refine hK _ _ ?_; (try clear hK); (try clear K))
  refine PW.cond_split (b := k == 5) rfl ?_ ?_ <;> intro hb5
  · have hk : k = 5 := by simpa using hb5
    skip
    refine PW.go tab_ok [] fun K hK => ?_
    simp only [go_sem, ↓reduceIte, reduceCtorEq, Nat.reduceBEq, Nat.reduceAdd, Nat.reduceMul, Nat.reduceSub, Nat.reduceLT, Nat.reduceLeDiff, Nat.reduceEqDiff]
    (refine hK _ _ ?_; (try clear hK); (try clear K))
    refine PW.goL tab_ok [] fun K hK => ?_
    simp only [go_sem, ↓reduceIte, reduceCtorEq, Nat.reduceBEq, Nat.reduceAdd, Nat.reduceMul, Nat.reduceSub, Nat.reduceLT, Nat.reduceLeDiff, Nat.reduceEqDiff]
    refine (choose_pc h1 hd1).use 0 2 (by decide) rfl rfl ?_
    refine PO.go tab_ok [] ?_
    simp only [go_sem, ↓reduceIte, reduceCtorEq, Nat.reduceBEq, Nat.reduceAdd, Nat.reduceMul, Nat.reduceSub, Nat.reduceLT, Nat.reduceLeDiff, Nat.reduceEqDiff]
    (refine hK _ _ ?_; (try clear hK); (try clear K))
    exact hrest (chooseM q).1 (chooseM q).2 _ (by simp [Sub, eget]) rfl (Weaks.refl _) hz
  have hk5 : ¬ k = 5 := by simpa using hb5
  exact absurd hhi (by omega)

/-! ### A script -/
def scrL : Nat → List Stm → R → List Stm × R
  | 0, out, r => (out, r)
  | n + 1, out, r =>
    if (hasM [59] (stateM (if out.length = 8 then failM 2 r else r)).2).1 then scrL n (out ++ [(stateM (if out.length = 8 then failM 2 r else r)).1]) (hasM [59] (stateM (if out.length = 8 then failM 2 r else r)).2).2
    else (out ++ [(stateM (if out.length = 8 then failM 2 r else r)).1], (hasM [59] (stateM (if out.length = 8 then failM 2 r else r)).2).2)
theorem scrL_ok : ∀ (n : Nat) (out : List Stm) (r : R), r.ok → (scrL n out r).2.ok
  | 0, out, r, h => h
  | n + 1, out, r, h => by
    have h1 : (if out.length = 8 then failM 2 r else r).ok := by
      split
      · exact failM_ok h 2
      · exact h
    unfold scrL
    generalize (if out.length = 8 then failM 2 r else r) = q at h1 ⊢
    split
    · exact scrL_ok n _ _ (hasM_ok (stateM_ok h1))
    · exact hasM_ok (stateM_ok h1)
def scriptM (l : List Tok) (f : Ft) : List Stm × Ft :=
  if f.c ≠ 0 then ([], f)
  else if (endM (scrL 9 [] ⟨l, 0, 0, 0⟩).2).c ≠ 0 then ([], ⟨(endM (scrL 9 [] ⟨l, 0, 0, 0⟩).2).c, (endM (scrL 9 [] ⟨l, 0, 0, 0⟩).2).a⟩)
  else ((scrL 9 [] ⟨l, 0, 0, 0⟩).1, ⟨0, 0⟩)
def stmsPV (l : List Stm) : PV := .list 14 (l.map stPV1) .no
theorem stms_clean (l : List Stm) : PV.clean 0 0 (stmsPV l) = true := by simp [stmsPV, PV.clean, clean_map (stPV1_clean 0 0)]
theorem res_two {tt : TTab} {env : Env} {st : St} {a b : Nat} {t : TypeId} {v p x : PV} {y : TyI} (h0 : eget env a = some v) (h1 : eget env b = some p) (h2 : tt t = some y) (h3 : ldPV y st p = some x) : resAll tt env st [.tmp a, .cell b t] = some [v, x] := by
  simp [resAll, resOne, h0, h1, h2, h3]
set_option maxHeartbeats 1000000 in
theorem script_pc {s : Str} {l : List Tok} {f : Ft} (hlex : Pure Tryz.prog 19 [.str s] (.tup [toksPV l, ftPV f])) (hl : f.c = 0 → R.ok ⟨l, 0, 0, 0⟩) :
    Pure Tryz.prog 21 [.str s] (.tup [stmsPV (scriptM l f).1, ftPV (scriptM l f).2]) := by
  have hcl : PV.clean 0 0 (.tup [stmsPV (scriptM l f).1, ftPV (scriptM l f).2]) = true := by simp [PV.clean, PVs.clean, stms_clean]; rfl
  refine PC.intro tab_ok Tryz.func21 rfl (by kernel_rfl) Tryz.ntmps21 (Nat.le_of_ble_eq_true rfl) (rs := _) (congrArg Array.toList Tryz.results21) ?_
  (repeat (refine PW.go tab_ok [] fun K hK => ?_; simp only [go_sem, ↓reduceIte, reduceCtorEq, Nat.reduceBEq, Nat.reduceAdd, Nat.reduceMul, Nat.reduceSub, Nat.reduceLT, Nat.reduceLeDiff, Nat.reduceEqDiff]; (refine hK _ _ ?_; clear hK K)))
  refine PW.go tab_ok [] fun K hK => ?_
  simp only [go_sem, ↓reduceIte, reduceCtorEq, Nat.reduceBEq, Nat.reduceAdd, Nat.reduceMul, Nat.reduceSub, Nat.reduceLT, Nat.reduceLeDiff, Nat.reduceEqDiff]
  refine hlex.use (Weaks.refl _) rfl (by simp [PV.clean, PVs.clean, toks_clean]; rfl) ?_
  refine PO.go tab_ok [] ?_
  simp only [ftPV, go_sem, ↓reduceIte, reduceCtorEq, Nat.reduceBEq, Nat.reduceAdd, Nat.reduceMul, Nat.reduceSub, Nat.reduceLT, Nat.reduceLeDiff, Nat.reduceEqDiff]
  (refine hK _ _ ?_; (try clear hK); (try clear K))
  refine PW.seq_k fun K0 hK0 => ?_
  refine PW.go tab_ok [] fun K hK => ?_
  simp only [go_sem, ↓reduceIte, reduceCtorEq, Nat.reduceBEq, Nat.reduceAdd, Nat.reduceMul, Nat.reduceSub, Nat.reduceLT, Nat.reduceLeDiff, Nat.reduceEqDiff]
  (refine hK _ _ ?_; (try clear hK); (try clear K))
  refine PW.cond_split (b := f.c != 0) rfl ?_ ?_ <;> intro hb
  · have hc : f.c ≠ 0 := by simpa using hb
    refine PW.draws tab_ok mixed [] [(0, []), (1, []), (2, [])] (by kernel_rfl) fun K hK => ?_
    simp only [go_sem, ↓reduceIte, reduceCtorEq, Nat.reduceBEq, Nat.reduceAdd, Nat.reduceMul, Nat.reduceSub, Nat.reduceLT, Nat.reduceLeDiff, Nat.reduceEqDiff]
    (refine hK _ _ ?_; (try clear hK); (try clear K))
    refine PW.ret (Pure.finw (.inl rfl) rfl ?_ hcl)
    simp only [scriptM, if_pos hc, resPV]
    exact Weak.tup (.cons (Weak.nil _ _ _) (.cons (.refl _) .nil))
  have hc : f.c = 0 := by simpa using hb
  have hcn : ¬ f.c ≠ 0 := by simp [hc]
  refine PW.skip (hK0 _ _ ?_); clear hK0 K0
  have h := hl hc
  have hs0 : (scrL 9 [] ⟨l, 0, 0, 0⟩).2.ok := scrL_ok 9 [] _ h
  refine PW.go tab_ok [] fun K hK => ?_
  simp only [toksPV, go_sem, ↓reduceIte, reduceCtorEq, Nat.reduceBEq, Nat.reduceAdd, Nat.reduceMul, Nat.reduceSub, Nat.reduceLT, Nat.reduceLeDiff, Nat.reduceEqDiff]
  (refine hK _ _ ?_; (try clear hK); (try clear K))
  (repeat (refine PW.go tab_ok [] fun K hK => ?_; simp only [go_sem, ↓reduceIte, reduceCtorEq, Nat.reduceBEq, Nat.reduceAdd, Nat.reduceMul, Nat.reduceSub, Nat.reduceLT, Nat.reduceLeDiff, Nat.reduceEqDiff]; (refine hK _ _ ?_; clear hK K)))
  refine PW.adopt ?_
  refine PW.forget [(7, .list 14 ((([] : List Stm)).map stPV1) (.own 0)), (6, .ref 2 0), (5, .ref 1 0), (3, .ref 0 0)] ⟨[[.int .i64 0, .int .i64 0], [.int .i64 f.c, .int .i64 f.a], rPV ⟨l, 0, 0, 0⟩], [0]⟩ (by simp [Sub, eget, Weak.nil]) ⟨?_, rfl, ?_⟩ rfl (Nat.le_refl _) (Nat.le_refl _) ?_
  · simp [Weaks.refl, PV.isCell, rPV, rdPV, toksPV]
  · intro c hc
    simp only [List.mem_cons, List.not_mem_nil, or_false] at hc
    rcases hc with rfl | rfl | rfl
    · rfl
    · rfl
    · exact PVs.clean_data (r_clean _)
  refine PW.seq_k fun K0 hK0 => ?_
  have hrest : ∀ {env : Env} {st : St} (z : List Stm × R), Sub env [(7, .list 14 (z.1.map stPV1) (.own 0)), (6, .ref 2 0), (5, .ref 1 0), (3, .ref 0 0)] → st = ⟨[[.int .i64 0, .int .i64 0], [.int .i64 f.c, .int .i64 f.a], rPV z.2], [z.1.length]⟩ → scrL 9 [] ⟨l, 0, 0, 0⟩ = z → K0 env st := by
    rintro env st z hsub rfl he
    refine hK0 _ _ (PW.less _ hsub ?_)
    clear hK0 K0
    rw [he] at hs0
    refine PW.seq_k fun K0 hK0 => ?_
    refine PW.go tab_ok [] fun K hK => ?_
    simp only [go_sem, ↓reduceIte, reduceCtorEq, Nat.reduceBEq, Nat.reduceAdd, Nat.reduceMul, Nat.reduceSub, Nat.reduceLT, Nat.reduceLeDiff, Nat.reduceEqDiff]
    refine (end_pc hs0).use 2 rfl (Weaks.refl _) rfl ?_
    refine PO.go tab_ok [] ?_
    simp only [go_sem, ↓reduceIte, reduceCtorEq, Nat.reduceBEq, Nat.reduceAdd, Nat.reduceMul, Nat.reduceSub, Nat.reduceLT, Nat.reduceLeDiff, Nat.reduceEqDiff]
    (refine hK _ _ ?_; (try clear hK); (try clear K))
    refine PW.go tab_ok [] fun K hK => ?_
    simp only [go_sem, ↓reduceIte, reduceCtorEq, Nat.reduceBEq, Nat.reduceAdd, Nat.reduceMul, Nat.reduceSub, Nat.reduceLT, Nat.reduceLeDiff, Nat.reduceEqDiff]
    (refine hK _ _ ?_; (try clear hK); (try clear K))
    refine PW.cond_split (b := (endM z.2).c != 0) rfl ?_ ?_ <;> intro hb2
    · have hc2 : (endM z.2).c ≠ 0 := by simpa using hb2
      refine PW.draws tab_ok mixed [] [(0, []), (1, []), (2, [])] (by kernel_rfl) fun K hK => ?_
      simp only [go_sem, ↓reduceIte, reduceCtorEq, Nat.reduceBEq, Nat.reduceAdd, Nat.reduceMul, Nat.reduceSub, Nat.reduceLT, Nat.reduceLeDiff, Nat.reduceEqDiff]
      (refine hK _ _ ?_; (try clear hK); (try clear K))
      refine PW.ret (Pure.finw (.inl rfl) rfl ?_ hcl)
      simp only [scriptM, if_neg hcn, he, if_pos hc2, resPV]
      exact Weak.tup (.cons (Weak.nil _ _ _) (.cons (.refl _) .nil))
    have hc2 : ¬ (endM z.2).c ≠ 0 := by simpa using hb2
    refine PW.skip (hK0 _ _ ?_); clear hK0 K0
    (repeat (refine PW.go tab_ok [] fun K hK => ?_; simp only [go_sem, ↓reduceIte, reduceCtorEq, Nat.reduceBEq, Nat.reduceAdd, Nat.reduceMul, Nat.reduceSub, Nat.reduceLT, Nat.reduceLeDiff, Nat.reduceEqDiff]; (refine hK _ _ ?_; clear hK K)))
    refine PW.ret (Pure.finw (.inl rfl) rfl ?_ hcl)
    simp only [scriptM, if_neg hcn, he, if_neg hc2, resPV]
    exact Weak.tup (.cons (Weak.no _ _ _) (.cons (.refl _) .nil))
  have hgood : ∀ (q : R) (n : Nat), StOk ⟨[[.int .i64 0, .int .i64 0], [.int .i64 f.c, .int .i64 f.a], rPV q], [n]⟩ := by
    intro q n
    refine StOk.mk' fun c hc => ?_
    simp only [List.mem_cons, List.not_mem_nil, or_false] at hc
    rcases hc with rfl | rfl | rfl
    · exact ⟨rfl, rfl⟩
    · exact ⟨rfl, rfl⟩
    · exact ⟨r_all q, PVs.clean_data (r_clean q)⟩
  refine PW.go tab_ok [] fun K hK => ?_
  simp only [go_sem, ↓reduceIte, reduceCtorEq, Nat.reduceBEq, Nat.reduceAdd, Nat.reduceMul, Nat.reduceSub, Nat.reduceLT, Nat.reduceLeDiff, Nat.reduceEqDiff]
  (refine hK _ _ ?_; (try clear hK); (try clear K))
  refine PW.block (PW.loop (α := Bool × Nat × List Stm × R) (fun a => [(8, .bool a.1), (7, .list 14 (a.2.2.1.map stPV1) (.own 0)), (6, .ref 2 0), (5, .ref 1 0), (3, .ref 0 0)]) (fun a => ⟨[[.int .i64 0, .int .i64 0], [.int .i64 f.c, .int .i64 f.a], rPV a.2.2.2], [a.2.2.1.length]⟩)
    (fun a => a.2.2.2.ok ∧ a.2.2.2.d = 0 ∧ a.2.1 + a.2.2.1.length = 9 ∧ (a.1 = true → a.2.2.1.length ≤ 8 ∧ scrL a.2.1 a.2.2.1 a.2.2.2 = scrL 9 [] ⟨l, 0, 0, 0⟩) ∧ (a.1 = false → scrL 9 [] ⟨l, 0, 0, 0⟩ = a.2.2)) (fun a => a.2.1) (true, 9, [], ⟨l, 0, 0, 0⟩)
    ⟨h, rfl, rfl, fun _ => ⟨by simp, rfl⟩, fun e => by cases e⟩ ?_ rfl (fun _ _ => ⟨rfl, rfl⟩) ?_)
  · simp [Sub, eget]
  rintro ⟨more, n, out, q⟩ ⟨hq, hqd, hn, hyes, hno⟩
  simp only at hq hqd hn hyes hno
  refine PW.seq_k fun K1 hK1 => ?_
  refine PW.go tab_ok [] fun K hK => ?_
  simp only [go_sem, ↓reduceIte, reduceCtorEq, Nat.reduceBEq, Nat.reduceAdd, Nat.reduceMul, Nat.reduceSub, Nat.reduceLT, Nat.reduceLeDiff, Nat.reduceEqDiff]
  (refine hK _ _ ?_; (try clear hK); (try clear K))
  refine PW.cond_split (b := more) rfl ?_ ?_ <;> intro hb
  rotate_left
  · exact PW.exit (hrest (out, q) (by simp [Sub, eget]) rfl (hno hb))
  obtain ⟨hlen, he⟩ := hyes hb
  clear hyes hno
  subst hb
  obtain ⟨m, rfl⟩ : ∃ m, n = m + 1 := ⟨n - 1, by omega⟩
  unfold scrL at he
  refine PW.skip (hK1 _ _ ?_)
  clear hK1
  refine PW.seq_k fun K2 hK2 => PW.block ?_
  refine PW.seq_k fun K0 hK0 => ?_
  refine PW.go tab_ok [] fun K hK => ?_
  simp only [go_sem, ↓reduceIte, reduceCtorEq, Nat.reduceBEq, Nat.reduceAdd, Nat.reduceMul, Nat.reduceSub, Nat.reduceLT, Nat.reduceLeDiff, Nat.reduceEqDiff]
  (refine hK _ _ ?_; (try clear hK); (try clear K))
  have hgo : ∀ {env : Env} {st : St} (q' : R), Sub env [(7, .list 14 (out.map stPV1) (.own 0)), (6, .ref 2 0), (5, .ref 1 0), (3, .ref 0 0)] → st = ⟨[[.int .i64 0, .int .i64 0], [.int .i64 f.c, .int .i64 f.a], rPV q'], [out.length]⟩ → q'.ok → q'.d = 0 →
      (if (hasM [59] (stateM q').2).1 then scrL m (out ++ [(stateM q').1]) (hasM [59] (stateM q').2).2 else (out ++ [(stateM q').1], (hasM [59] (stateM q').2).2)) = scrL 9 [] ⟨l, 0, 0, 0⟩ → (out.length = 8 → q'.c ≠ 0) → K0 env st := by
    rintro env st q' hsub rfl hok hd he hbad
    refine hK0 _ _ (PW.less _ hsub ?_)
    clear hK0 K0
    have hfit : (out.length + 1) * 264 ≤ 140737488355328 := by omega
    have hmax : out.length + 1 ≤ maxLen := by unfold maxLen; omega
    refine PW.goL tab_ok [] fun K hK => ?_
    simp only [go_sem, ↓reduceIte, reduceCtorEq, Nat.reduceBEq, Nat.reduceAdd, Nat.reduceMul, Nat.reduceSub, Nat.reduceLT, Nat.reduceLeDiff, Nat.reduceEqDiff]
    refine (state_pc hok hd).use 2 rfl (Weaks.refl _) rfl ?_
    refine PO.go tab_ok [] ?_
    simp only [hfit, hmax, go_sem, ↓reduceIte, reduceCtorEq, Nat.reduceBEq, Nat.reduceAdd, Nat.reduceMul, Nat.reduceSub, Nat.reduceLT, Nat.reduceLeDiff, Nat.reduceEqDiff]
    (refine hK _ _ ?_; (try clear hK); (try clear K))
    refine hK2 _ _ ?_
    clear hK2
    have h1 := stateM_ok hok
    have hd1 : (stateM q').2.d = 0 := by rw [stateM_d, hd]
    have hb1 : q'.c ≠ 0 → (stateM q').2.c ≠ 0 := fun hb => by rw [stateM_bad hb]; exact hb
    generalize stateM q' = z at h1 hd1 hb1 he ⊢
    refine PW.goL tab_ok [] fun K hK => ?_
    simp only [go_sem, ↓reduceIte, reduceCtorEq, Nat.reduceBEq, Nat.reduceAdd, Nat.reduceMul, Nat.reduceSub, Nat.reduceLT, Nat.reduceLeDiff, Nat.reduceEqDiff]
    refine (has_pc (s := [59]) h1).use 2 rfl (Weaks.refl _) rfl ?_
    refine PO.go tab_ok [] ?_
    simp only [go_sem, ↓reduceIte, reduceCtorEq, Nat.reduceBEq, Nat.reduceAdd, Nat.reduceMul, Nat.reduceSub, Nat.reduceLT, Nat.reduceLeDiff, Nat.reduceEqDiff]
    (refine hK _ _ ?_; (try clear hK); (try clear K))
    refine ⟨((hasM [59] z.2).1, m, out ++ [z.1], (hasM [59] z.2).2), ⟨hasM_ok h1, by rw [hasM_d, hd1], by simp; omega, ?_, ?_⟩, by simp, by simp [Sub, eget], ?_, by simp [Env.clean, PV.clean]; rw [PVs.clean_append, clean_map (stPV1_clean 3 1)]; simp [PVs.clean, stPV1_clean]⟩
    · intro hy
      simp only at hy
      rw [if_pos hy] at he
      refine ⟨?_, he⟩
      simp only [List.length_append, List.length_cons, List.length_nil]
      by_cases h8 : out.length = 8
      · rw [hasM_bad (hb1 (hbad h8))] at hy
        cases hy
      · omega
    · intro hy
      simp only at hy
      rw [if_neg (by simp [hy])] at he
      exact he.symm
    · simpa using (hgood (hasM [59] z.2).2 (out.length + 1)).left
  refine PW.cond_split (b := (out.length : Int) == 8) rfl ?_ ?_ <;> intro hb
  · have h8 : out.length = 8 := by have : (out.length : Int) = 8 := by simpa using hb
                                   omega
    rw [if_pos h8] at he
    refine PW.goL tab_ok [] fun K hK => ?_
    simp only [go_sem, ↓reduceIte, reduceCtorEq, Nat.reduceBEq, Nat.reduceAdd, Nat.reduceMul, Nat.reduceSub, Nat.reduceLT, Nat.reduceLeDiff, Nat.reduceEqDiff]
    refine (fail_pc' hq 2).use 2 rfl (Weaks.refl _) rfl ?_
    refine PO.go tab_ok [] ?_
    simp only [go_sem, ↓reduceIte, reduceCtorEq, Nat.reduceBEq, Nat.reduceAdd, Nat.reduceMul, Nat.reduceSub, Nat.reduceLT, Nat.reduceLeDiff, Nat.reduceEqDiff]
    (refine hK _ _ ?_; (try clear hK); (try clear K))
    exact hgo (failM 2 q) (by simp [Sub, eget]) rfl (failM_ok hq 2) (by rw [failM_d, hqd]) he fun _ => failM_c 2 q (by decide)
  · have h8 : ¬ out.length = 8 := by have : ¬ (out.length : Int) = 8 := by simpa using hb
                                     omega
    rw [if_neg h8] at he
    exact PW.skip (hgo q (by simp [Sub, eget]) rfl hq hqd he fun h => absurd h h8)
def scriptS (s : Str) : List Stm × Ft := scriptM (lexM s).1 (lexM s).2
theorem Script_pc (s : Str) : Pure Tryz.prog 21 [.str s] (.tup [stmsPV (scriptS s).1, ftPV (scriptS s).2]) := script_pc (lex_pc s) lexM_ok
end Go.Proofs.YtpepmfhemjeocaaGreatDoor
end
section
/- Plain: two readers side by side: the same tokens up to a place, where one is at the end and the other has more. -/
set_option linter.unusedVariables false
set_option linter.unusedSimpArgs false
namespace Go.Proofs.YtpepmfhemjeocaaGreatDoor

/-- Tokens that say the same. -/
def Tok.eqv (t u : Tok) : Prop := u.kind = t.kind ∧ u.text = t.text ∧ u.num = t.num
/-- The same tokens, and the end; there the other has Z. -/
inductive Ext (Z : List Tok) : List Tok → List Tok → Prop
  | last (E : Tok) (h : E.kind = 6) : Ext Z [E] Z
  | cons (t u : Tok) (l m : List Tok) (hk : t.kind ≠ 6) (he : t.eqv u) (h : Ext Z l m) : Ext Z (t :: l) (u :: m)
/-- What stands in the end's place. -/
structure Zok (Z : List Tok) : Prop where
  ne : Z ≠ []
  kind : (Z.headD tok0).kind = 5 ∨ (Z.headD tok0).kind = 6
  last : ∃ l e, Z = l ++ [e] ∧ e.kind = 6
/-- A row of words that it is none of. -/
def Zno (Z : List Tok) (ls : List Str) : Prop := (Z.headD tok0).kind = 6 ∨ (Z.headD tok0).text ∉ ls

/-- How two readers stand: d: the depth; D: how much deeper the other is. -/
structure Sim (Z : List Tok) (D d : Int) (r q : R) : Prop where
  ext : Ext Z r.ts q.ts
  d1 : r.d = d
  d2 : q.d = d + D
  c1 : r.c = 0
  c2 : q.c = 0

theorem idxF_not {ls : List Str} {x : Str} (h : x ∉ ls) : idxF ls x = -1 :=
  idx_nil fun j l e he => h (by rw [← he]; exact List.mem_of_getElem? e)

section
variable {Z : List Tok} {D d : Int}
theorem Sim.hd_cases {r q : R} (hz : Zok Z) (h : Sim Z D d r q) : ((hd r).kind ≠ 6 ∧ (hd r).eqv (hd q) ∧ Sim Z D d r.tail q.tail) ∨ ((hd r).kind = 6 ∧ hd q = Z.headD tok0 ∧ r.ts.tail = [] ∧ q.ts = Z) := by
  obtain ⟨he, h1, h2, h3, h4⟩ := h
  obtain ⟨ts, d0, c0, a0⟩ := r
  obtain ⟨us, d', c', a'⟩ := q
  simp only at he
  cases he with
  | last E hE =>
    right
    refine ⟨hE, ?_, rfl, rfl⟩
    cases Z with
    | nil => exact absurd rfl hz.ne
    | cons => rfl
  | cons t u l m hk he h => exact .inl ⟨hk, he, h, h1, h2, h3, h4⟩
theorem Ext.ok1 {Z l m : List Tok} (h : Ext Z l m) : ∃ k e, l = k ++ [e] ∧ e.kind = 6 := by
  induction h with
  | last E h => exact ⟨[], E, rfl, h⟩
  | cons t u l m hk he h ih =>
    obtain ⟨k, e, rfl, h6⟩ := ih
    exact ⟨t :: k, e, rfl, h6⟩
theorem Ext.ok2 {Z l m : List Tok} (hz : Zok Z) (h : Ext Z l m) : ∃ k e, m = k ++ [e] ∧ e.kind = 6 := by
  induction h with
  | last E h => exact hz.last
  | cons t u l m hk he h ih =>
    obtain ⟨k, e, rfl, h6⟩ := ih
    exact ⟨u :: k, e, rfl, h6⟩
theorem Sim.ok1 {r q : R} (h : Sim Z D d r q) : r.ok := h.ext.ok1
theorem Sim.ok2 {r q : R} (hz : Zok Z) (h : Sim Z D d r q) : q.ok := h.ext.ok2 hz
theorem isM_sim (hz : Zok Z) {ls : List Str} (hn : Zno Z ls) {r q : R} (h : Sim Z D d r q) : isM ls q = isM ls r := by
  rcases h.hd_cases hz with ⟨h1, h2, _⟩ | ⟨h1, h2, _⟩
  · simp only [isM, h.c1, h.c2, h2.1, h2.2.1]
  · have e1 : isM ls r = -1 := by simp [isM, h1]
    rw [e1]
    unfold isM
    split
    · rename_i hc
      rw [h2] at hc ⊢
      rcases hn with hn | hn
      · rw [hn] at hc; omega
      · exact idxF_not hn
    · rfl
theorem isM_nonneg_kind {ls : List Str} {r : R} (h : 0 ≤ isM ls r) : (hd r).kind = 2 ∨ (hd r).kind = 5 := by
  unfold isM at h
  split at h
  · rename_i hc; exact hc.2
  · omega
theorem passM_sim (hz : Zok Z) {ls : List Str} (hn : Zno Z ls) {r q : R} (h : Sim Z D d r q) : (passM ls q).1 = (passM ls r).1 ∧ Sim Z D d (passM ls r).2 (passM ls q).2 := by
  have e := isM_sim hz hn h
  refine ⟨e, ?_⟩
  simp only [passM, e]
  split
  · rename_i hp
    rcases h.hd_cases hz with ⟨_, _, h3⟩ | ⟨h1, _⟩
    · exact h3
    · have := isM_nonneg_kind hp
      rw [h1] at this
      omega
  · exact h
theorem hasM_sim (hz : Zok Z) {s : Str} (hn : Zno Z [s]) {r q : R} (h : Sim Z D d r q) : (hasM s q).1 = (hasM s r).1 ∧ Sim Z D d (hasM s r).2 (hasM s q).2 := by
  obtain ⟨e, h2⟩ := passM_sim hz hn h
  exact ⟨by simp only [hasM, e], h2⟩
/-- Where the first passes a word, the other does. -/
theorem hasM_sim_yes (hz : Zok Z) {s : Str} {r q : R} (h : Sim Z D d r q) (hy : (hasM s r).1 = true) : (hasM s q).1 = true ∧ Sim Z D d (hasM s r).2 (hasM s q).2 := by
  have hp : 0 ≤ isM [s] r := of_decide_eq_true hy
  rcases h.hd_cases hz with ⟨h1, h2, h3⟩ | ⟨h1, _⟩
  · have e : isM [s] q = isM [s] r := by simp only [isM, h.c1, h.c2, h2.1, h2.2.1]
    simp only [hasM, passM, e, if_pos hp]
    exact ⟨decide_eq_true hp, h3⟩
  · have := isM_nonneg_kind hp
    rw [h1] at this
    omega

/-! ### Readings side by side -/
/-- f and g: the first is at fault behind, or the other is too deep, or both give the same and stand alike. -/
structure Gd {α : Type} (Z : List Tok) (D d : Int) (f g : R → α × R) : Prop where
  sim : ∀ r q, Sim Z D d r q → (f r).2.c ≠ 0 ∨ (D ≠ 0 ∧ (g q).2.c = 10) ∨ ((g q).1 = (f r).1 ∧ Sim Z D d (f r).2 (g q).2)
  st1 : ∀ r, r.c ≠ 0 → (f r).2.c = r.c
  st2 : ∀ r, r.c ≠ 0 → (g r).2.c = r.c
def retM {α : Type} (a : α) : R → α × R := fun r => (a, r)
def bndM {α β : Type} (f : R → α × R) (g : α → R → β × R) : R → β × R := fun r => g (f r).1 (f r).2
def must' (ls : List Str) : R → Unit × R := fun r => ((), mustM ls r)
def fail' (e : Int) : R → Unit × R := fun r => ((), failM e r)
theorem ite_app {α β : Type} {c : Prop} [Decidable c] (f g : α → β) (x : α) : (if c then f else g) x = if c then f x else g x := by split <;> rfl
theorem Gd.ret {α : Type} (a : α) : Gd Z D d (retM a) (retM a) := ⟨fun r q h => .inr (.inr ⟨rfl, h⟩), fun _ _ => rfl, fun _ _ => rfl⟩
theorem Gd.bnd {α β : Type} {f g : R → α × R} {f' g' : α → R → β × R} (h : Gd Z D d f g) (h' : ∀ a, Gd Z D d (f' a) (g' a)) : Gd Z D d (bndM f f') (bndM g g') := by
  refine ⟨fun r q hs => ?_, fun r hc => ?_, fun r hc => ?_⟩
  · rcases h.sim r q hs with h1 | h1 | ⟨h1, h2⟩
    · left
      show (f' (f r).1 (f r).2).2.c ≠ 0
      rw [(h' _).st1 _ h1]
      exact h1
    · right; left
      show D ≠ 0 ∧ (g' (g q).1 (g q).2).2.c = 10
      rw [(h' _).st2 _ (by rw [h1.2]; decide)]
      exact h1
    · show (f' (f r).1 (f r).2).2.c ≠ 0 ∨ (D ≠ 0 ∧ (g' (g q).1 (g q).2).2.c = 10) ∨ ((g' (g q).1 (g q).2).1 = (f' (f r).1 (f r).2).1 ∧ Sim Z D d (f' (f r).1 (f r).2).2 (g' (g q).1 (g q).2).2)
      rw [h1]
      exact (h' _).sim _ _ h2
  · show (f' (f r).1 (f r).2).2.c = r.c
    have h1 := h.st1 r hc
    rw [(h' _).st1 _ (by rw [h1]; exact hc), h1]
  · show (g' (g r).1 (g r).2).2.c = r.c
    have h1 := h.st2 r hc
    rw [(h' _).st2 _ (by rw [h1]; exact hc), h1]
theorem Gd.ite {α : Type} {c : Prop} [Decidable c] {f g f' g' : R → α × R} (h : Gd Z D d f g) (h' : Gd Z D d f' g') : Gd Z D d (if c then f else f') (if c then g else g') := by
  split
  · exact h
  · exact h'
theorem Gd.of_eq {α : Type} {f g f' g' : R → α × R} (h : Gd Z D d f g) (e1 : ∀ r, f' r = f r) (e2 : ∀ r, g' r = g r) : Gd Z D d f' g' := by
  rw [funext e1, funext e2]; exact h
theorem Gd.fail (e : Int) (he : e ≠ 0) : Gd Z D d (fail' e) (fail' e) :=
  ⟨fun r q h => .inl (failM_c e r he), fun r hc => by show (failM e r).c = r.c; rw [failM_bad hc], fun r hc => by show (failM e r).c = r.c; rw [failM_bad hc]⟩
theorem Gd.pass (hz : Zok Z) {ls : List Str} (hn : Zno Z ls) : Gd Z D d (passM ls) (passM ls) :=
  ⟨fun r q h => .inr (.inr (passM_sim hz hn h)), fun r hc => by rw [passM_bad hc], fun r hc => by rw [passM_bad hc]⟩
theorem Gd.has (hz : Zok Z) {s : Str} (hn : Zno Z [s]) : Gd Z D d (hasM s) (hasM s) :=
  ⟨fun r q h => .inr (.inr (hasM_sim hz hn h)), fun r hc => by rw [hasM_bad hc], fun r hc => by rw [hasM_bad hc]⟩
theorem must_sim (hz : Zok Z) : ∀ (ls : List Str) (r q : R), Sim Z D d r q → (mustM ls r).c ≠ 0 ∨ Sim Z D d (mustM ls r) (mustM ls q)
  | [], r, q, h => .inr h
  | l :: ls, r, q, h => by
    cases hy : (hasM l r).1 with
    | true =>
      obtain ⟨h1, h2⟩ := hasM_sim_yes hz h hy
      simp only [mustM, hy, h1, if_true]
      exact must_sim hz ls _ _ h2
    | false =>
      left
      simp only [mustM, hy, Bool.false_eq_true, if_false]
      have h1 := failM_c 4 (hasM l r).2 (by decide)
      rw [mustM_bad h1]
      exact h1
theorem Gd.must (hz : Zok Z) (ls : List Str) : Gd Z D d (must' ls) (must' ls) :=
  ⟨fun r q h => (must_sim hz ls r q h).elim .inl fun h => .inr (.inr ⟨rfl, h⟩), fun r hc => by show (mustM ls r).c = r.c; rw [mustM_bad hc], fun r hc => by show (mustM ls r).c = r.c; rw [mustM_bad hc]⟩
def takeN (k : Int) : R → (Str × Int) × R := fun r => (((takeM k r).1.text, (takeM k r).1.num), (takeM k r).2)
theorem Gd.take (hz : Zok Z) {k : Int} (hk : k ≠ 6) : Gd Z D d (takeN k) (takeN k) := by
  refine ⟨fun r q h => ?_, fun r hc => by simp [takeN, takeM_bad hc], fun r hc => by simp [takeN, takeM_bad hc]⟩
  by_cases hh : (hd r).kind = k
  · rcases h.hd_cases hz with ⟨h1, h2, h3⟩ | ⟨h1, _⟩
    · right; right
      have e1 : takeM k r = (hd r, r.tail) := by simp [takeM, h.c1, hh]
      have e2 : takeM k q = (hd q, q.tail) := by simp [takeM, h.c2, h2.1, hh]
      simp only [takeN, e1, e2, h2.2.1, h2.2.2]
      exact ⟨trivial, h3⟩
    · exact absurd (hh.symm.trans h1) hk
  · left
    have e1 : takeM k r = (tok0, failM 4 r) := by simp [takeM, hh]
    simp only [takeN, e1]
    exact failM_c 4 r (by decide)
theorem Gd.name (hz : Zok Z) : Gd Z D d nameM nameM :=
  ((Gd.take hz (k := 1) (by decide)).bnd fun a => Gd.ret a.1).of_eq (fun _ => rfl) (fun _ => rfl)
theorem nxt_sim (hz : Zok Z) {r q : R} (h : Sim Z D d r q) (h6 : (hd r).kind ≠ 6) : ((nxt r).kind ≠ 6 ∧ (nxt r).eqv (nxt q) ∧ Sim Z D d r.tail.tail q.tail.tail) ∨ ((nxt r).kind = 6 ∧ nxt q = Z.headD tok0) := by
  rcases h.hd_cases hz with ⟨_, _, h3⟩ | ⟨h1, _⟩
  · have e : ∀ p : R, nxt p = p.tail.ts.headD tok0 := fun _ => rfl
    have e' : ∀ p : R, p.tail.ts ≠ [] → hd p.tail = p.tail.ts.headD tok0 := fun p hp => by
      unfold hd
      cases h : p.tail.ts with
      | nil => exact absurd h hp
      | cons => rfl
    have hne : r.tail.ts ≠ [] ∧ q.tail.ts ≠ [] := by
      have := h3.ext
      generalize r.tail.ts = a at this
      generalize q.tail.ts = b at this
      cases this with
      | last E hE => exact ⟨by simp, hz.ne⟩
      | cons => exact ⟨by simp, by simp⟩
    have e1 := e' r hne.1
    have e2 := e' q hne.2
    rw [e r, e q, ← e1, ← e2]
    rcases h3.hd_cases hz with h4 | ⟨h4, h5, _⟩
    · exact .inl h4
    · exact .inr ⟨h4, h5⟩
  · exact absurd h1 h6
theorem Gd.lit (hz : Zok Z) (h1 : Zno Z [[45]]) (h2 : Zno Z [sNULL]) : Gd Z D d litM litM := by
  refine ⟨fun r q h => ?_, fun r hc => by rw [litM_bad hc], fun r hc => by rw [litM_bad hc]⟩
  right; right
  have hm := isM_sim hz h1 h
  obtain ⟨g1, g2⟩ := hasM_sim hz h2 h
  have hc1 : ¬ r.c ≠ 0 := by simp [h.c1]
  have hc2 : ¬ q.c ≠ 0 := by simp [h.c2]
  unfold litM
  rw [if_neg hc1, if_neg hc2]
  rcases h.hd_cases hz with ⟨k1, k2, k3⟩ | ⟨k1, k2, _⟩
  · rw [k2.1, k2.2.1, k2.2.2]
    by_cases e3 : (hd r).kind = 3
    · rw [if_pos e3, if_pos e3]; exact ⟨rfl, k3⟩
    rw [if_neg e3, if_neg e3]
    by_cases e4 : (hd r).kind = 4
    · rw [if_pos e4, if_pos e4]; exact ⟨rfl, k3⟩
    rw [if_neg e4, if_neg e4, hm]
    by_cases e5 : isM [[45]] r < 0
    · rw [if_pos (.inl e5), if_pos (.inl e5)]; exact ⟨by rw [g1], g2⟩
    rcases nxt_sim hz h k1 with ⟨n1, n2, n3⟩ | ⟨n1, n2⟩
    · rw [n2.1, n2.2.2]
      by_cases e6 : (nxt r).kind = 3
      · have hn : ¬ (isM [[45]] r < 0 ∨ (nxt r).kind ≠ 3) := by rintro (h | h); exact e5 h; exact h e6
        rw [if_neg hn, if_neg hn]; exact ⟨rfl, n3⟩
      · rw [if_pos (.inr e6), if_pos (.inr e6)]; exact ⟨by rw [g1], g2⟩
    · rw [if_pos (.inr (by rw [n2]; rcases hz.kind with hk | hk <;> rw [hk] <;> decide)), if_pos (.inr (by rw [n1]; decide))]
      exact ⟨by rw [g1], g2⟩
  · have e1 : isM [[45]] r = -1 := by simp [isM, k1]
    have z3 : (hd q).kind ≠ 3 ∧ (hd q).kind ≠ 4 := by rw [k2]; rcases hz.kind with hk | hk <;> rw [hk] <;> decide
    rw [hm, if_neg z3.1, if_neg z3.2, if_pos (.inl (by rw [e1]; decide)), if_neg (by rw [k1]; decide), if_neg (by rw [k1]; decide), if_pos (.inl (by rw [e1]; decide))]
    exact ⟨by rw [g1], g2⟩
end
end Go.Proofs.YtpepmfhemjeocaaGreatDoor
end
section
/- Plain: two readers side by side: expressions. -/
set_option linter.unusedVariables false
set_option linter.unusedSimpArgs false
namespace Go.Proofs.YtpepmfhemjeocaaGreatDoor

/-- At the end's place: the end, a ) or a ;. -/
structure Zt (Z : List Tok) : Prop extends Zok Z where
  text : (Z.headD tok0).kind = 6 ∨ (Z.headD tok0).text = [41] ∨ (Z.headD tok0).text = [59]
theorem Zt.no {Z : List Tok} (h : Zt Z) {ls : List Str} (hd : decide ([41] ∉ ls ∧ [59] ∉ ls) = true) : Zno Z ls := by
  have hd' := of_decide_eq_true hd
  rcases h.text with h | h | h
  · exact .inl h
  · exact .inr (by rw [h]; exact hd'.1)
  · exact .inr (by rw [h]; exact hd'.2)

section
variable {Z : List Tok} {D d : Int}
theorem rowL_st {m : R → Ex × R} (h : ∀ r : R, r.c ≠ 0 → (m r).2.c = r.c) (first : Int) (ops : List Str) : ∀ (n : Nat) (e : Ex) (r : R), r.c ≠ 0 → (rowL m first ops n e r).2.c = r.c
  | 0, e, r, _ => rfl
  | n + 1, e, r, hc => by simp only [rowL, passM_bad hc]; rfl
theorem rowL_sim (hz : Zok Z) {m m' : R → Ex × R} (h : Gd Z D d m m') (hs : Sh m) (hs' : Sh m') (first : Int) {ops : List Str} (hn : Zno Z ops) : ∀ (n n' : Nat) (e : Ex) (r q : R), Sim Z D d r q → r.ts.length ≤ n → q.ts.length ≤ n' →
    (rowL m first ops n e r).2.c ≠ 0 ∨ (D ≠ 0 ∧ (rowL m' first ops n' e q).2.c = 10) ∨ ((rowL m' first ops n' e q).1 = (rowL m first ops n e r).1 ∧ Sim Z D d (rowL m first ops n e r).2 (rowL m' first ops n' e q).2)
  | 0, n', e, r, q, hsim, hl, hl' => by have := hsim.ok1.pos; omega
  | n + 1, 0, e, r, q, hsim, hl, hl' => by have := (hsim.ok2 hz).pos; omega
  | n + 1, n' + 1, e, r, q, hsim, hl, hl' => by
    obtain ⟨h1, h2⟩ := passM_sim hz hn hsim
    unfold rowL
    rw [h1]
    by_cases hk : (passM ops r).1 < 0
    · rw [if_pos hk, if_pos hk]
      exact .inr (.inr ⟨rfl, h2⟩)
    · rw [if_neg hk, if_neg hk]
      have hk0 : 0 ≤ (passM ops r).1 := by omega
      have hk1 : 0 ≤ (passM ops q).1 := by omega
      have l1 := passM_lt hsim.ok1 hk0
      have l2 := passM_lt (hsim.ok2 hz) hk1
      have l3 := hs.le (passM ops r).2
      have l4 := hs'.le (passM ops q).2
      rcases h.sim _ _ h2 with h3 | h3 | ⟨h3, h4⟩
      · left
        rw [rowL_st h.st1 _ _ _ _ _ h3]
        exact h3
      · right; left
        rw [rowL_st h.st2 _ _ _ _ _ (by rw [h3.2]; decide)]
        exact h3
      · rw [h3]
        exact rowL_sim hz h hs hs' first hn n n' _ _ _ h4 (by omega) (by omega)
theorem Gd.row (hz : Zok Z) {m m' : R → Ex × R} (h : Gd Z D d m m') (hs : Sh m) (hs' : Sh m') (first : Int) {ops : List Str} (hn : Zno Z ops) : Gd Z D d (rowM m first ops) (rowM m' first ops) := by
  refine ⟨fun r q hsim => ?_, fun r hc => ?_, fun r hc => ?_⟩
  · unfold rowM
    rcases h.sim r q hsim with h1 | h1 | ⟨h1, h2⟩
    · left
      rw [rowL_st h.st1 _ _ _ _ _ h1]
      exact h1
    · right; left
      rw [rowL_st h.st2 _ _ _ _ _ (by rw [h1.2]; decide)]
      exact h1
    · rw [h1]
      exact rowL_sim hz h hs hs' first hn _ _ _ _ _ h2 (Nat.le_refl _) (Nat.le_refl _)
  · have h1 := h.st1 r hc
    unfold rowM
    rw [rowL_st h.st1 _ _ _ _ _ (by rw [h1]; exact hc), h1]
  · have h1 := h.st2 r hc
    unfold rowM
    rw [rowL_st h.st2 _ _ _ _ _ (by rw [h1]; exact hc), h1]
theorem deepM_st {r : R} (h : r.c ≠ 0) : (deepM r).c = r.c := by
  have h1 : (r.deep 1).c ≠ 0 := h
  unfold deepM
  split
  · rw [failM_bad h1]; rfl
  · rfl
theorem withM_st (one : R → Ex × R) {r : R} (h : r.c ≠ 0) : (withM one r).2.c = r.c := by
  have h1 := deepM_st h
  unfold withM
  rw [if_neg (by rw [h1]; exact h)]
  exact h1
theorem Gd.within {m m' : R → Ex × R} (h : d + 1 ≤ 10 → d + D + 1 ≤ 10 → Gd Z D (d + 1) m m') : Gd Z D d (withM m) (withM m') := by
  refine ⟨fun r q hs => ?_, fun r hc => withM_st m hc, fun r hc => withM_st m' hc⟩
  obtain ⟨he, h1, h2, h3, h4⟩ := hs
  by_cases hr : r.d + 1 > 10
  · left
    have hd : deepM r = failM 10 (r.deep 1) := by unfold deepM; rw [if_pos hr]
    have hc := failM_c 10 (r.deep 1) (by decide)
    unfold withM
    rw [hd, if_neg hc]
    exact hc
  have hdr : deepM r = r.deep 1 := by unfold deepM; rw [if_neg hr]
  by_cases hq : q.d + 1 > 10
  · right; left
    have hd : deepM q = failM 10 (q.deep 1) := by unfold deepM; rw [if_pos hq]
    have hc : (failM 10 (q.deep 1)).c = 10 := by
      have : (q.deep 1).c = 0 := h4
      simp [failM, this]
    refine ⟨fun h0 => ?_, ?_⟩
    · subst h0; omega
    unfold withM
    rw [hd, if_neg (by rw [hc]; decide)]
    exact hc
  have hdq : deepM q = q.deep 1 := by unfold deepM; rw [if_neg hq]
  have hsim : Sim Z D (d + 1) (r.deep 1) (q.deep 1) := ⟨he, by show r.d + 1 = d + 1; omega, by show q.d + 1 = d + 1 + D; omega, h3, h4⟩
  have c1 : (r.deep 1).c = 0 := h3
  have c2 : (q.deep 1).c = 0 := h4
  unfold withM
  rw [hdr, hdq, if_pos c1, if_pos c2]
  rcases (h (by omega) (by omega)).sim _ _ hsim with g | g | ⟨g1, g2⟩
  · exact .inl g
  · exact .inr (.inl g)
  · exact .inr (.inr ⟨g1, g2.ext, by have := g2.d1; show _ + -1 = d; omega, by have := g2.d2; show _ + -1 = d + D; omega, g2.c1, g2.c2⟩)
theorem Gd.col (hz : Zt Z) : Gd Z D d colM colM :=
  ((Gd.name hz.toZok).bnd fun a => (Gd.has hz.toZok (hz.no (ls := [[46]]) (by decide))).bnd fun b => Gd.ite (c := b = true) ((Gd.name hz.toZok).bnd fun c => Gd.ret (Ex.mk 2 0 a c v0 [])) (Gd.ret (Ex.mk 2 0 [] a v0 []))).of_eq
    (fun r => by simp only [colM, bndM, retM, must', ite_app]) (fun r => by simp only [colM, bndM, retM, must', ite_app])
theorem Gd.test (hz : Zt Z) {m m' : R → Ex × R} (h : Gd Z D d m m') : Gd Z D d (testM m) (testM m') :=
  (h.bnd fun e => (Gd.pass hz.toZok (hz.no (ls := testOps) (by decide))).bnd fun k => Gd.ite (c := k < 0) (Gd.ret e) (Gd.ite (c := 3 + k ≤ 8) (h.bnd fun f => Gd.ret (opM (3 + k) e f))
    ((Gd.has hz.toZok (hz.no (ls := [sNOT]) (by decide))).bnd fun b => (Gd.must hz.toZok [sNULL]).bnd fun _ => Gd.ret (if b then ofM 4 (ofM 6 e) else ofM 6 e)))).of_eq
    (fun r => by simp only [testM, bndM, retM, must', ite_app]) (fun r => by simp only [testM, bndM, retM, must', ite_app])
theorem Gd.not (hz : Zt Z) {m m' t t' : R → Ex × R} (h : d + 1 ≤ 10 → d + D + 1 ≤ 10 → Gd Z D (d + 1) m m') (ht : Gd Z D d t t') : Gd Z D d (notM m t) (notM m' t') :=
  ((Gd.has hz.toZok (hz.no (ls := [sNOT]) (by decide))).bnd fun b => Gd.ite (c := b = true) ((Gd.within h).bnd fun e => Gd.ret (ofM 4 e)) ht).of_eq
    (fun r => by simp only [notM, bndM, retM, must', ite_app]) (fun r => by simp only [notM, bndM, retM, must', ite_app])
theorem Gd.fac (hz : Zt Z) {m m' t t' : R → Ex × R} (h : d + 1 ≤ 10 → d + D + 1 ≤ 10 → Gd Z D (d + 1) m m') (ht : d + 1 ≤ 10 → d + D + 1 ≤ 10 → Gd Z D (d + 1) t t') : Gd Z D d (facM m t) (facM m' t') :=
  ((Gd.lit hz.toZok (hz.no (by decide)) (hz.no (by decide))).bnd fun v => Gd.ite (c := v.2 = true) (Gd.ret (valM v.1)) ((Gd.pass hz.toZok (hz.no (ls := facOps) (by decide))).bnd fun k =>
    Gd.ite (c := k = 0) ((Gd.within h).bnd fun e => Gd.ret (ofM 5 e)) (Gd.ite (c := k = 1) ((Gd.within ht).bnd fun e => (Gd.must hz.toZok [[41]]).bnd fun _ => Gd.ret e) (Gd.col hz)))).of_eq
    (fun r => by simp only [facM, bndM, retM, must', ite_app]) (fun r => by simp only [facM, bndM, retM, must', ite_app])
structure GdLv (Z : List Tok) (D d : Int) (l l' : Lv) : Prop where
  fac : Gd Z D d l.fac l'.fac
  nt : Gd Z D d l.nt l'.nt
  ex : Gd Z D d l.ex l'.ex
theorem mkLv_gd (hz : Zt Z) {l l' : Lv} (hs : Lvs l) (hs' : Lvs l') (h : d + 1 ≤ 10 → d + D + 1 ≤ 10 → GdLv Z D (d + 1) l l') : GdLv Z D d (mkLv l) (mkLv l') := by
  have f1 := facM_sh hs.fac hs.ex
  have f2 := facM_sh hs'.fac hs'.ex
  have n1 := notM_sh hs.nt (testM_sh ((f1.row 11 termOps).row 9 sumOps))
  have n2 := notM_sh hs'.nt (testM_sh ((f2.row 11 termOps).row 9 sumOps))
  have gf : Gd Z D d (facM l.fac l.ex) (facM l'.fac l'.ex) := Gd.fac hz (fun a b => (h a b).fac) (fun a b => (h a b).ex)
  have gn := Gd.not hz (fun a b => (h a b).nt) (Gd.test hz ((gf.row hz.toZok f1 f2 11 (hz.no (ls := termOps) (by decide))).row hz.toZok (f1.row 11 termOps) (f2.row 11 termOps) 9 (hz.no (ls := sumOps) (by decide))))
  exact ⟨gf, gn, (gn.row hz.toZok n1 n2 2 (hz.no (ls := andOps) (by decide))).row hz.toZok (n1.row 2 andOps) (n2.row 2 andOps) 1 (hz.no (ls := exprOps) (by decide))⟩
/-- As deep as the other. -/
theorem lv_gd0 (hz : Zt Z) : ∀ (n : Nat), n ≤ 10 → GdLv Z 0 (10 - (n : Int)) (lv n) (lv n)
  | 0, _ => mkLv_gd hz ⟨⟨fun _ h => h, fun _ => rfl, fun _ => Nat.le_refl _⟩, ⟨fun _ h => h, fun _ => rfl, fun _ => Nat.le_refl _⟩, ⟨fun _ h => h, fun _ => rfl, fun _ => Nat.le_refl _⟩⟩
      ⟨⟨fun _ h => h, fun _ => rfl, fun _ => Nat.le_refl _⟩, ⟨fun _ h => h, fun _ => rfl, fun _ => Nat.le_refl _⟩, ⟨fun _ h => h, fun _ => rfl, fun _ => Nat.le_refl _⟩⟩ (fun h => by omega)
  | n + 1, hn => mkLv_gd hz (lv_sh n) (lv_sh n) fun _ _ => by
    have := lv_gd0 hz n (by omega)
    rw [show (10 : Int) - ((n + 1 : Nat) : Int) + 1 = 10 - (n : Int) from by omega]
    exact this
/-- The other is one deeper. -/
theorem lv_gd1 (hz : Zt Z) : ∀ (n : Nat), n ≤ 9 → GdLv Z 1 (9 - (n : Int)) (lv (n + 1)) (lv n)
  | 0, _ => mkLv_gd hz (lv_sh 0)
      ⟨⟨fun _ h => h, fun _ => rfl, fun _ => Nat.le_refl _⟩, ⟨fun _ h => h, fun _ => rfl, fun _ => Nat.le_refl _⟩, ⟨fun _ h => h, fun _ => rfl, fun _ => Nat.le_refl _⟩⟩ (fun _ h => by omega)
  | n + 1, hn => mkLv_gd hz (lv_sh (n + 1)) (lv_sh n) fun _ _ => by
    have := lv_gd1 hz n (by omega)
    rw [show (9 : Int) - ((n + 1 : Nat) : Int) + 1 = 9 - (n : Int) from by omega]
    exact this
theorem Gd.expr (hz : Zt Z) : Gd Z 0 0 exprM exprM := (lv_gd0 hz 10 (by omega)).ex
theorem Gd.expr1 (hz : Zt Z) : Gd Z 1 0 exprM (lv 9).ex := (lv_gd1 hz 9 (by omega)).ex
end
end Go.Proofs.YtpepmfhemjeocaaGreatDoor
end
section
/- Plain: two readers side by side: statements. -/
set_option linter.unusedVariables false
set_option linter.unusedSimpArgs false
namespace Go.Proofs.YtpepmfhemjeocaaGreatDoor

section
variable {Z : List Tok} {D d : Int}
theorem Gd.of_eq0 {α : Type} {f g f' g' : R → α × R} (h : Gd Z D d f g) (e1 : ∀ r : R, r.c = 0 → f' r = f r) (e2 : ∀ r : R, r.c = 0 → g' r = g r) (s1 : ∀ r : R, r.c ≠ 0 → (f' r).2.c = r.c) (s2 : ∀ r : R, r.c ≠ 0 → (g' r).2.c = r.c) : Gd Z D d f' g' :=
  ⟨fun r q hs => by rw [e1 r hs.c1, e2 q hs.c2]; exact h.sim r q hs, s1, s2⟩
theorem Gd.map {α β : Type} {f g : R → α × R} (h : Gd Z D d f g) (k : α → β) : Gd Z D d (fun r => (k (f r).1, (f r).2)) (fun r => (k (g r).1, (g r).2)) := h.bnd fun a => Gd.ret (k a)
theorem Gd.coA (hz : Zt Z) : Gd Z D d (bndM nameM fun n => bndM (passM coOps) fun k => if k = -1 then bndM (fail' 4) fun _ => retM (n, (1 : Int)) else if k = 1 then retM (n, 2) else retM (n, 1)) (bndM nameM fun n => bndM (passM coOps) fun k => if k = -1 then bndM (fail' 4) fun _ => retM (n, (1 : Int)) else if k = 1 then retM (n, 2) else retM (n, 1)) :=
  (Gd.name hz.toZok).bnd fun n => (Gd.pass hz.toZok (hz.no (by decide))).bnd fun k => Gd.ite ((Gd.fail 4 (by decide)).bnd fun _ => Gd.ret _) (Gd.ite (Gd.ret _) (Gd.ret _))
theorem Gd.co (hz : Zt Z) : Gd Z D d coM coM := by
  have h := (Gd.coA (D := D) (d := d) hz).bnd fun p => (Gd.has hz.toZok (hz.no (ls := [sNOT]) (by decide))).bnd fun nn => (Gd.ite (c := nn = true) (Gd.must hz.toZok [sNULL]) (Gd.ret ())).bnd fun _ => (Gd.has hz.toZok (hz.no (ls := [sUNIQUE]) (by decide))).bnd fun u => Gd.ret (Col.mk p.1 p.2 nn u)
  have e : ∀ r, coM r = _ := fun r => by
    show coM r = bndM (bndM nameM fun n => bndM (passM coOps) fun k => if k = -1 then bndM (fail' 4) fun _ => retM (n, (1 : Int)) else if k = 1 then retM (n, 2) else retM (n, 1)) (fun p => bndM (hasM sNOT) fun nn => bndM (if nn = true then must' [sNULL] else retM ()) fun _ => bndM (hasM sUNIQUE) fun u => retM (Col.mk p.1 p.2 nn u)) r
    have h1 : (bndM nameM fun n => bndM (passM coOps) fun k => if k = -1 then bndM (fail' 4) fun _ => retM (n, (1 : Int)) else if k = 1 then retM (n, 2) else retM (n, 1)) r = (((nameM r).1, (Proofs.YtpepmfhemjeocaaGreatDoor.coA r).1), (Proofs.YtpepmfhemjeocaaGreatDoor.coA r).2) := by
      simp only [Proofs.YtpepmfhemjeocaaGreatDoor.coA, bndM, retM, fail', ite_app]
      (repeat' split) <;> rfl
    unfold bndM at h1 ⊢
    rw [h1]
    simp only [coM, coB, retM, must', ite_app]
    cases (hasM sNOT (Proofs.YtpepmfhemjeocaaGreatDoor.coA r).2).1 <;> rfl
  exact h.of_eq e e
theorem Gd.maybe (hz : Zt Z) {w : Str} (hw : decide ([41] ∉ [w] ∧ [59] ∉ [w]) = true) : Gd Z 0 0 (maybeM w) (maybeM w) :=
  ((Gd.has hz.toZok (hz.no hw)).bnd fun b => Gd.ite (c := b = true) ((Gd.expr hz).bnd fun e => Gd.ret (some e)) (Gd.ret none)).of_eq
    (fun r => by simp only [maybeM, bndM, retM, ite_app]) (fun r => by simp only [maybeM, bndM, retM, ite_app])
theorem Gd.by (hz : Zt Z) {w : Str} (hw : decide ([41] ∉ [w] ∧ [59] ∉ [w]) = true) : Gd Z D d (byM w) (byM w) :=
  ((Gd.has hz.toZok (hz.no hw)).bnd fun b => Gd.ite (c := b = true) ((Gd.must hz.toZok [[66, 89]]).bnd fun _ => (Gd.col hz).bnd fun e => Gd.ret (some e)) (Gd.ret none)).of_eq
    (fun r => by simp only [byM, bndM, retM, must', ite_app]) (fun r => by simp only [byM, bndM, retM, must', ite_app])
theorem Gd.itArg (hz : Zt Z) (k : Int) : Gd Z 0 0 (itArg k) (itArg k) :=
  ((Gd.expr hz).bnd fun e => (Gd.must hz.toZok [[41]]).bnd fun _ => Gd.ret (Itm.mk k [e])).of_eq (fun _ => rfl) (fun _ => rfl)
theorem Gd.item (hz : Zt Z) : Gd Z 0 0 itemM itemM :=
  ((Gd.pass hz.toZok (hz.no (ls := itOps) (by decide))).bnd fun k => Gd.ite (c := k < 0) ((Gd.expr hz).bnd fun e => Gd.ret (Itm.mk 2 [e])) (Gd.ite (c := k = 4) (Gd.ret (Itm.mk 1 [])) ((Gd.must hz.toZok [[40]]).bnd fun _ =>
    Gd.ite (c := k > 0) (Gd.itArg hz (4 + k)) ((Gd.has hz.toZok (hz.no (ls := [[42]]) (by decide))).bnd fun b => Gd.ite (c := b = true) ((Gd.must hz.toZok [[41]]).bnd fun _ => Gd.ret (Itm.mk 3 [])) (Gd.itArg hz (4 + k)))))).of_eq
    (fun r => by simp only [itemM, bndM, retM, must', ite_app]) (fun r => by simp only [itemM, bndM, retM, must', ite_app])
/-! ### many -/
def oneN {σ : Type} (one : R × σ → R × σ) (s : σ) : R → σ × R := fun r => ((one (r, s)).2, (one (r, s)).1)
def manyN {σ : Type} (one : R × σ → R × σ) (m : Nat) (s : σ) : R → σ × R := fun r => ((manyM one m (r, s)).2, (manyM one m (r, s)).1)
theorem manyN_succ {σ : Type} (one : R × σ → R × σ) (m : Nat) (s : σ) (r : R) : manyN one (m + 1) s r = if (hasM [44] (oneN one s r).2).1 = true then manyN one m (oneN one s r).1 (hasM [44] (oneN one s r).2).2 else ((oneN one s r).1, (hasM [44] (oneN one s r).2).2) := by
  by_cases h : (hasM [44] (oneN one s r).2).1 = true
  · rw [if_pos h]
    have h' : (hasM [44] (one (r, s)).1).1 = true := h
    simp only [manyN, manyM, if_pos h']
    rfl
  · rw [if_neg h]
    have h' : ¬ (hasM [44] (one (r, s)).1).1 = true := h
    simp only [manyN, manyM, if_neg h']
    rfl
theorem Gd.many (hz : Zt Z) {σ : Type} {one : R × σ → R × σ} (h : ∀ s, Gd Z D d (oneN one s) (oneN one s)) : ∀ (m : Nat) (s : σ), Gd Z D d (manyN one m s) (manyN one m s)
  | 0, s => ((Gd.fail 2 (by decide)).bnd fun _ => (h s).bnd fun s1 => (Gd.has hz.toZok (hz.no (ls := [[44]]) (by decide))).bnd fun _ => Gd.ret s1).of_eq (fun _ => rfl) (fun _ => rfl)
  | m + 1, s => ((h s).bnd fun s1 => (Gd.has hz.toZok (hz.no (ls := [[44]]) (by decide))).bnd fun b => Gd.ite (c := b = true) (Gd.many hz h m s1) (Gd.ret s1)).of_eq
      (fun r => by rw [manyN_succ]; simp only [bndM, retM, ite_app]) (fun r => by rw [manyN_succ]; simp only [bndM, retM, ite_app])
theorem Gd.tupOne (hz : Zt Z) (s : List Vl) : Gd Z D d (oneN tupOne s) (oneN tupOne s) :=
  ((Gd.lit hz.toZok (hz.no (by decide)) (hz.no (by decide))).bnd fun v => (Gd.ite (c := v.2 = true) (Gd.ret ()) (Gd.fail 4 (by decide))).bnd fun _ => Gd.ret (s ++ [v.1])).of_eq
    (fun r => by simp only [oneN, Proofs.YtpepmfhemjeocaaGreatDoor.tupOne, bndM, retM, fail', ite_app]; split <;> rfl) (fun r => by simp only [oneN, Proofs.YtpepmfhemjeocaaGreatDoor.tupOne, bndM, retM, fail', ite_app]; split <;> rfl)
theorem Gd.tuple (hz : Zt Z) : Gd Z D d tupleM tupleM :=
  ((Gd.must hz.toZok [[40]]).bnd fun _ => (Gd.many hz (Gd.tupOne hz) 8 []).bnd fun s => (Gd.must hz.toZok [[41]]).bnd fun _ => Gd.ret s).of_eq (fun _ => rfl) (fun _ => rfl)
theorem Gd.insert (hz : Zt Z) : Gd Z D d insertM insertM :=
  ((Gd.must hz.toZok [[73, 78, 84, 79]]).bnd fun _ => (Gd.name hz.toZok).bnd fun t => (Gd.must hz.toZok [[86, 65, 76, 85, 69, 83]]).bnd fun _ => (Gd.many hz (one := insOne) (fun s => ((Gd.tuple hz).bnd fun l => Gd.ret (s ++ [l])).of_eq (fun _ => rfl) (fun _ => rfl)) 16 []).bnd fun rows =>
    Gd.ret { stm0 3 with table := t, rows := rows }).of_eq (fun _ => rfl) (fun _ => rfl)
theorem Gd.update (hz : Zt Z) : Gd Z 0 0 updateM updateM :=
  ((Gd.name hz.toZok).bnd fun t => (Gd.must hz.toZok [[83, 69, 84]]).bnd fun _ => (Gd.many hz (one := updOne) (fun s => ((Gd.name hz.toZok).bnd fun n => (Gd.must hz.toZok [[61]]).bnd fun _ => (Gd.expr hz).bnd fun e => Gd.ret (s ++ [⟨n, e⟩])).of_eq (fun _ => rfl) (fun _ => rfl)) 8 []).bnd fun sets =>
    (Gd.maybe hz (w := [87, 72, 69, 82, 69]) (by decide)).bnd fun w => Gd.ret { stm0 4 with table := t, sets := sets, wh := w.toList }).of_eq (fun _ => rfl) (fun _ => rfl)
theorem Gd.drop (hz : Zt Z) : Gd Z D d dropM dropM :=
  ((Gd.must hz.toZok [[84, 65, 66, 76, 69]]).bnd fun _ => (Gd.name hz.toZok).bnd fun t => Gd.ret { stm0 2 with table := t }).of_eq (fun _ => rfl) (fun _ => rfl)
theorem Gd.remove (hz : Zt Z) : Gd Z 0 0 removeM removeM :=
  ((Gd.must hz.toZok [[70, 82, 79, 77]]).bnd fun _ => (Gd.name hz.toZok).bnd fun t => (Gd.maybe hz (w := [87, 72, 69, 82, 69]) (by decide)).bnd fun w => Gd.ret { stm0 5 with table := t, wh := w.toList }).of_eq (fun _ => rfl) (fun _ => rfl)
theorem Gd.cre (hz : Zt Z) : ∀ (n : Nat) (cs : List Col), Gd Z D d (creL n cs) (creL n cs)
  | 0, cs => Gd.ret cs
  | n + 1, cs => by
    have hrest : Gd Z D d (bndM (if cs.length = 8 then fail' 2 else retM ()) fun _ => bndM coM fun c => bndM (must' [[44]]) fun _ => creL n (cs ++ [c])) (bndM (if cs.length = 8 then fail' 2 else retM ()) fun _ => bndM coM fun c => bndM (must' [[44]]) fun _ => creL n (cs ++ [c])) :=
      (Gd.ite (Gd.fail 2 (by decide)) (Gd.ret ())).bnd fun _ => (Gd.co hz).bnd fun c => (Gd.must hz.toZok [[44]]).bnd fun _ => Gd.cre hz n (cs ++ [c])
    have hst : ∀ r : R, r.c ≠ 0 → (creL (n + 1) cs r).2.c = r.c := fun r hc => by unfold creL; rw [if_pos hc]
    by_cases hcs : cs = []
    · have e : ∀ r : R, r.c = 0 → creL (n + 1) cs r = _ := fun r hc => by
        show creL (n + 1) cs r = (bndM (if cs.length = 8 then fail' 2 else retM ()) fun _ => bndM coM fun c => bndM (must' [[44]]) fun _ => creL n (cs ++ [c])) r
        unfold creL
        rw [if_neg (by simp [hc]), if_neg (by simp [hcs])]
        simp only [bndM, ite_app, fail', retM, must']
        split <;> rfl
      exact hrest.of_eq0 e e hst hst
    · have e : ∀ r : R, r.c = 0 → creL (n + 1) cs r = _ := fun r hc => by
        show creL (n + 1) cs r = (bndM (hasM sPRIM) fun b => if b = true then retM cs else bndM (if cs.length = 8 then fail' 2 else retM ()) fun _ => bndM coM fun c => bndM (must' [[44]]) fun _ => creL n (cs ++ [c])) r
        unfold creL
        rw [if_neg (by simp [hc])]
        cases hb : (hasM sPRIM r).1 with
        | true =>
          rw [if_pos ⟨hcs, rfl⟩]
          simp only [bndM, ite_app, hb, if_true, retM]
        | false =>
          rw [if_neg (by simp)]
          simp only [bndM, ite_app, hb, Bool.false_eq_true, if_false, retM, fail', must', hasM_no hb]
          split <;> rfl
      exact ((Gd.has hz.toZok (hz.no (ls := [sPRIM]) (by decide))).bnd fun b => Gd.ite (c := b = true) (Gd.ret cs) hrest).of_eq0 e e hst hst
theorem Gd.create (hz : Zt Z) : Gd Z D d createM createM :=
  ((Gd.must hz.toZok [[84, 65, 66, 76, 69]]).bnd fun _ => (Gd.name hz.toZok).bnd fun t => (Gd.must hz.toZok [[40]]).bnd fun _ => (Gd.cre hz 10 []).bnd fun cs => (Gd.must hz.toZok [[75, 69, 89], [40]]).bnd fun _ => (Gd.name hz.toZok).bnd fun p =>
    (Gd.must hz.toZok [[41], [41]]).bnd fun _ => Gd.ret { stm0 1 with table := t, cols := cs, prim := p }).of_eq (fun _ => rfl) (fun _ => rfl)
theorem Gd.join (hz : Zt Z) : Gd Z 0 0 joinM joinM :=
  ((Gd.has hz.toZok (hz.no (ls := [[74, 79, 73, 78]]) (by decide))).bnd fun b => Gd.ite (c := b = true) ((Gd.name hz.toZok).bnd fun n => (Gd.must hz.toZok [[79, 78]]).bnd fun _ => (Gd.expr hz).bnd fun e => Gd.ret (n, some e)) (Gd.ret ([], none))).of_eq
    (fun r => by simp only [joinM, bndM, retM, must', ite_app]) (fun r => by simp only [joinM, bndM, retM, must', ite_app])
theorem Gd.desc (hz : Zt Z) (o : Option Ex) : Gd Z D d (descM o) (descM o) := by
  cases o with
  | none => exact Gd.ret false
  | some e => exact Gd.has hz.toZok (hz.no (by decide))
theorem Gd.lim (hz : Zt Z) : Gd Z D d limM limM :=
  ((Gd.has hz.toZok (hz.no (ls := [[76, 73, 77, 73, 84]]) (by decide))).bnd fun b => Gd.ite (c := b = true) ((Gd.take hz.toZok (k := 3) (by decide)).bnd fun t => Gd.ret t.2) (Gd.ret (-1))).of_eq
    (fun r => by simp only [limM, bndM, retM, takeN, ite_app]) (fun r => by simp only [limM, bndM, retM, takeN, ite_app])
theorem Gd.choose (hz : Zt Z) : Gd Z 0 0 chooseM chooseM :=
  ((Gd.many hz (one := choOne) (fun s => ((Gd.item hz).bnd fun i => Gd.ret (s ++ [i])).of_eq (fun _ => rfl) (fun _ => rfl)) 8 []).bnd fun is => (Gd.must hz.toZok [[70, 82, 79, 77]]).bnd fun _ => (Gd.name hz.toZok).bnd fun t => (Gd.join hz).bnd fun j =>
    (Gd.maybe hz (w := [87, 72, 69, 82, 69]) (by decide)).bnd fun w => (Gd.by hz (w := [71, 82, 79, 85, 80]) (by decide)).bnd fun g => (Gd.by hz (w := [79, 82, 68, 69, 82]) (by decide)).bnd fun o => (Gd.desc hz o).bnd fun d => (Gd.lim hz).bnd fun l =>
      Gd.ret (Stm.mk 6 t [] [] [] [] is j.1 j.2.toList w.toList g.toList o.toList d l)).of_eq (fun _ => rfl) (fun _ => rfl)
theorem Gd.state (hz : Zt Z) : Gd Z 0 0 stateM stateM :=
  ((Gd.pass hz.toZok (hz.no (ls := stOps) (by decide))).bnd fun k => Gd.ite (c := k = -1) ((Gd.fail 4 (by decide)).bnd fun _ => Gd.ret (stm0 0)) (Gd.ite (c := k = 0) (Gd.create hz) (Gd.ite (c := k = 1) (Gd.drop hz) (Gd.ite (c := k = 2) (Gd.insert hz)
    (Gd.ite (c := k = 3) (Gd.update hz) (Gd.ite (c := k = 4) (Gd.remove hz) (Gd.choose hz))))))).of_eq
    (fun r => by simp only [stateM, bndM, retM, fail', ite_app]) (fun r => by simp only [stateM, bndM, retM, fail', ite_app])
end
end Go.Proofs.YtpepmfhemjeocaaGreatDoor
end
section
/- Plain: where the tokens stood does not change what is read. -/

set_option linter.unusedVariables false
set_option linter.unusedSimpArgs false
namespace Go.Proofs.YtpepmfhemjeocaaGreatDoor

def R.z (r : R) : R := ⟨r.ts.map Tok.z, r.d, r.c, 0⟩
/-- f does not look at places. -/
def Cm {α : Type} (f : R → α × R) : Prop := ∀ r : R, f r.z = ((f r).1, (f r).2.z)
theorem headD_z (l : List Tok) : (l.map Tok.z).headD tok0 = (l.headD tok0).z := by cases l <;> rfl
theorem hd_z (r : R) : hd r.z = (hd r).z := headD_z r.ts
theorem tail_z (r : R) : r.z.tail = r.tail.z := by simp [R.z, R.tail, List.map_tail]
theorem nxt_z (r : R) : nxt r.z = (nxt r).z := by
  have : r.z.ts.tail = r.ts.tail.map Tok.z := by simp [R.z, List.map_tail]
  unfold nxt
  rw [this]
  exact headD_z _
theorem isM_z (ls : List Str) (r : R) : isM ls r.z = isM ls r := by
  unfold isM
  rw [hd_z]
  rfl
theorem failM_z (e : Int) (r : R) : failM e r.z = (failM e r).z := by
  unfold failM
  by_cases h : r.c = 0
  · have h' : r.z.c = 0 := h
    rw [if_pos h, if_pos h', hd_z]
    rfl
  · have h' : ¬ r.z.c = 0 := h
    rw [if_neg h, if_neg h']
theorem Cm.pass (ls : List Str) : Cm (passM ls) := fun r => by
  simp only [passM, isM_z, tail_z]
  split <;> rfl
theorem Cm.has (s : Str) : Cm (hasM s) := fun r => by
  simp only [hasM, Cm.pass [s] r]
theorem must_z : ∀ (ls : List Str) (r : R), mustM ls r.z = (mustM ls r).z
  | [], r => rfl
  | l :: ls, r => by
    simp only [mustM, Cm.has l r]
    split
    · exact must_z ls _
    · rw [failM_z]; exact must_z ls _
theorem Cm.must (ls : List Str) : Cm (must' ls) := fun r => by simp only [must', must_z]
theorem Cm.fail (e : Int) : Cm (fail' e) := fun r => by simp only [fail', failM_z]
theorem take_z (k : Int) (r : R) : takeM k r.z = ((takeM k r).1.z, (takeM k r).2.z) := by
  unfold takeM
  rw [hd_z, failM_z, tail_z]
  show (if r.c = 0 ∧ (hd r).kind = k then _ else _) = _
  split <;> rfl
theorem Cm.take (k : Int) : Cm (takeN k) := fun r => by simp only [takeN, take_z]; rfl
theorem Cm.name : Cm nameM := fun r => by simp only [nameM, take_z]; rfl
theorem Cm.ret {α : Type} (a : α) : Cm (retM a) := fun _ => rfl
theorem Cm.bnd {α β : Type} {f : R → α × R} {g : α → R → β × R} (h : Cm f) (h' : ∀ a, Cm (g a)) : Cm (bndM f g) := fun r => by
  simp only [bndM, h r, h' _ _]
theorem Cm.ite {α : Type} {c : Prop} [Decidable c] {f g : R → α × R} (h : Cm f) (h' : Cm g) : Cm (if c then f else g) := by
  split
  · exact h
  · exact h'
theorem Cm.of_eq {α : Type} {f f' : R → α × R} (h : Cm f) (e : ∀ r, f' r = f r) : Cm f' := by
  rw [funext e]; exact h
theorem Cm.lit : Cm litM := fun r => by
  have h0 := Cm.has sNULL r
  unfold litM
  rw [hd_z, isM_z, nxt_z, h0, tail_z, tail_z]
  have e1 : r.z.c = r.c := rfl
  have e2 : ∀ t : Tok, t.z.kind = t.kind ∧ t.z.num = t.num ∧ t.z.text = t.text := fun _ => ⟨rfl, rfl, rfl⟩
  simp only [e1, (e2 _).1, (e2 _).2.1, (e2 _).2.2]
  (repeat' split) <;> rfl
theorem rowL_z {m : R → Ex × R} (h : Cm m) (first : Int) (ops : List Str) : ∀ (n : Nat) (e : Ex) (r : R), rowL m first ops n e r.z = ((rowL m first ops n e r).1, (rowL m first ops n e r).2.z)
  | 0, e, r => rfl
  | n + 1, e, r => by
    simp only [rowL, Cm.pass ops r, h _]
    split
    · rfl
    · exact rowL_z h first ops n _ _
theorem Cm.row {m : R → Ex × R} (h : Cm m) (first : Int) (ops : List Str) : Cm (rowM m first ops) := fun r => by
  have e : ∀ q : R, q.z.ts.length = q.ts.length := fun q => by simp [R.z]
  simp only [rowM, h r, e]
  exact rowL_z h first ops _ _ _
theorem deep_z (r : R) (n : Int) : r.z.deep n = (r.deep n).z := rfl
theorem deepM_z (r : R) : deepM r.z = (deepM r).z := by
  unfold deepM
  rw [deep_z, failM_z]
  show (if r.d + 1 > 10 then _ else _) = _
  split <;> rfl
theorem Cm.within {m : R → Ex × R} (h : Cm m) : Cm (withM m) := fun r => by
  simp only [withM, deepM_z, h _, deep_z]
  show (if (deepM r).c = 0 then _ else _) = _
  split <;> rfl
theorem Cm.col : Cm colM :=
  (Cm.name.bnd fun a => (Cm.has [46]).bnd fun b => Cm.ite (c := b = true) (Cm.name.bnd fun c => Cm.ret (Ex.mk 2 0 a c v0 [])) (Cm.ret (Ex.mk 2 0 [] a v0 []))).of_eq
    fun r => by simp only [colM, bndM, retM, must', ite_app]
theorem Cm.test {m : R → Ex × R} (h : Cm m) : Cm (testM m) :=
  (h.bnd fun e => (Cm.pass testOps).bnd fun k => Cm.ite (c := k < 0) (Cm.ret e) (Cm.ite (c := 3 + k ≤ 8) (h.bnd fun f => Cm.ret (opM (3 + k) e f))
    ((Cm.has sNOT).bnd fun b => (Cm.must [sNULL]).bnd fun _ => Cm.ret (if b then ofM 4 (ofM 6 e) else ofM 6 e)))).of_eq
    fun r => by simp only [testM, bndM, retM, must', ite_app]
theorem Cm.not {m t : R → Ex × R} (h : Cm m) (ht : Cm t) : Cm (notM m t) :=
  ((Cm.has sNOT).bnd fun b => Cm.ite (c := b = true) ((Cm.within h).bnd fun e => Cm.ret (ofM 4 e)) ht).of_eq
    fun r => by simp only [notM, bndM, retM, must', ite_app]
theorem Cm.fac {m t : R → Ex × R} (h : Cm m) (ht : Cm t) : Cm (facM m t) :=
  (Cm.lit.bnd fun v => Cm.ite (c := v.2 = true) (Cm.ret (valM v.1)) ((Cm.pass facOps).bnd fun k =>
    Cm.ite (c := k = 0) ((Cm.within h).bnd fun e => Cm.ret (ofM 5 e)) (Cm.ite (c := k = 1) ((Cm.within ht).bnd fun e => (Cm.must [[41]]).bnd fun _ => Cm.ret e) Cm.col))).of_eq
    fun r => by simp only [facM, bndM, retM, must', ite_app]
theorem mkLv_cm {l : Lv} (h : Cm l.fac ∧ Cm l.nt ∧ Cm l.ex) : Cm (mkLv l).fac ∧ Cm (mkLv l).nt ∧ Cm (mkLv l).ex := by
  have gf : Cm (facM l.fac l.ex) := Cm.fac h.1 h.2.2
  have gn := Cm.not h.2.1 (Cm.test ((gf.row 11 termOps).row 9 sumOps))
  exact ⟨gf, gn, (gn.row 2 andOps).row 1 exprOps⟩
theorem lv_cm : ∀ n, Cm (lv n).fac ∧ Cm (lv n).nt ∧ Cm (lv n).ex
  | 0 => mkLv_cm ⟨fun _ => rfl, fun _ => rfl, fun _ => rfl⟩
  | n + 1 => mkLv_cm (lv_cm n)
theorem Cm.expr : Cm exprM := (lv_cm 10).2.2
theorem Cm.coA : Cm (bndM nameM fun n => bndM (passM coOps) fun k => if k = -1 then bndM (fail' 4) fun _ => retM (n, (1 : Int)) else if k = 1 then retM (n, 2) else retM (n, 1)) :=
  Cm.name.bnd fun n => (Cm.pass coOps).bnd fun k => Cm.ite ((Cm.fail 4).bnd fun _ => Cm.ret _) (Cm.ite (Cm.ret _) (Cm.ret _))
theorem coM_eq (r : R) : coM r = bndM (bndM nameM fun n => bndM (passM coOps) fun k => if k = -1 then bndM (fail' 4) fun _ => retM (n, (1 : Int)) else if k = 1 then retM (n, 2) else retM (n, 1)) (fun p => bndM (hasM sNOT) fun nn => bndM (if nn = true then must' [sNULL] else retM ()) fun _ => bndM (hasM sUNIQUE) fun u => retM (Col.mk p.1 p.2 nn u)) r := by
  have h1 : (bndM nameM fun n => bndM (passM coOps) fun k => if k = -1 then bndM (fail' 4) fun _ => retM (n, (1 : Int)) else if k = 1 then retM (n, 2) else retM (n, 1)) r = (((nameM r).1, (Proofs.YtpepmfhemjeocaaGreatDoor.coA r).1), (Proofs.YtpepmfhemjeocaaGreatDoor.coA r).2) := by
    simp only [Proofs.YtpepmfhemjeocaaGreatDoor.coA, bndM, retM, fail', ite_app]
    (repeat' split) <;> rfl
  unfold bndM at h1 ⊢
  rw [h1]
  simp only [coM, coB, retM, must', ite_app]
  cases (hasM sNOT (Proofs.YtpepmfhemjeocaaGreatDoor.coA r).2).1 <;> rfl
theorem Cm.co : Cm coM :=
  (Cm.coA.bnd fun p => (Cm.has sNOT).bnd fun nn => (Cm.ite (c := nn = true) (Cm.must [sNULL]) (Cm.ret ())).bnd fun _ => (Cm.has sUNIQUE).bnd fun u => Cm.ret (Col.mk p.1 p.2 nn u)).of_eq coM_eq
theorem Cm.maybe (w : Str) : Cm (maybeM w) :=
  ((Cm.has w).bnd fun b => Cm.ite (c := b = true) (Cm.expr.bnd fun e => Cm.ret (some e)) (Cm.ret none)).of_eq
    fun r => by simp only [maybeM, bndM, retM, ite_app]
theorem Cm.by (w : Str) : Cm (byM w) :=
  ((Cm.has w).bnd fun b => Cm.ite (c := b = true) ((Cm.must [[66, 89]]).bnd fun _ => Cm.col.bnd fun e => Cm.ret (some e)) (Cm.ret none)).of_eq
    fun r => by simp only [byM, bndM, retM, must', ite_app]
theorem Cm.itArg (k : Int) : Cm (itArg k) :=
  (Cm.expr.bnd fun e => (Cm.must [[41]]).bnd fun _ => Cm.ret (Itm.mk k [e])).of_eq fun _ => rfl
theorem Cm.item : Cm itemM :=
  ((Cm.pass itOps).bnd fun k => Cm.ite (c := k < 0) (Cm.expr.bnd fun e => Cm.ret (Itm.mk 2 [e])) (Cm.ite (c := k = 4) (Cm.ret (Itm.mk 1 [])) ((Cm.must [[40]]).bnd fun _ =>
    Cm.ite (c := k > 0) (Cm.itArg (4 + k)) ((Cm.has [42]).bnd fun b => Cm.ite (c := b = true) ((Cm.must [[41]]).bnd fun _ => Cm.ret (Itm.mk 3 [])) (Cm.itArg (4 + k)))))).of_eq
    fun r => by simp only [itemM, bndM, retM, must', ite_app]
theorem Cm.many {σ : Type} {one : R × σ → R × σ} (h : ∀ s, Cm (oneN one s)) : ∀ (m : Nat) (s : σ), Cm (manyN one m s)
  | 0, s => ((Cm.fail 2).bnd fun _ => (h s).bnd fun s1 => (Cm.has [44]).bnd fun _ => Cm.ret s1).of_eq (fun _ => rfl)
  | m + 1, s => ((h s).bnd fun s1 => (Cm.has [44]).bnd fun b => Cm.ite (c := b = true) (Cm.many h m s1) (Cm.ret s1)).of_eq
      (fun r => by rw [manyN_succ]; simp only [bndM, retM, ite_app])
theorem Cm.tupOne (s : List Vl) : Cm (oneN tupOne s) :=
  (Cm.lit.bnd fun v => (Cm.ite (c := v.2 = true) (Cm.ret ()) (Cm.fail 4)).bnd fun _ => Cm.ret (s ++ [v.1])).of_eq
    (fun r => by simp only [oneN, Proofs.YtpepmfhemjeocaaGreatDoor.tupOne, bndM, retM, fail', ite_app]; split <;> rfl)
theorem Cm.tuple : Cm tupleM :=
  ((Cm.must [[40]]).bnd fun _ => (Cm.many Cm.tupOne 8 []).bnd fun s => (Cm.must [[41]]).bnd fun _ => Cm.ret s).of_eq (fun _ => rfl)
theorem Cm.insert : Cm insertM :=
  ((Cm.must [[73, 78, 84, 79]]).bnd fun _ => Cm.name.bnd fun t => (Cm.must [[86, 65, 76, 85, 69, 83]]).bnd fun _ => (Cm.many (one := insOne) (fun s => (Cm.tuple.bnd fun l => Cm.ret (s ++ [l])).of_eq (fun _ => rfl)) 16 []).bnd fun rows =>
    Cm.ret { stm0 3 with table := t, rows := rows }).of_eq (fun _ => rfl)
theorem Cm.update : Cm updateM :=
  (Cm.name.bnd fun t => (Cm.must [[83, 69, 84]]).bnd fun _ => (Cm.many (one := updOne) (fun s => (Cm.name.bnd fun n => (Cm.must [[61]]).bnd fun _ => Cm.expr.bnd fun e => Cm.ret (s ++ [⟨n, e⟩])).of_eq (fun _ => rfl)) 8 []).bnd fun sets =>
    (Cm.maybe [87, 72, 69, 82, 69]).bnd fun w => Cm.ret { stm0 4 with table := t, sets := sets, wh := w.toList }).of_eq (fun _ => rfl)
theorem Cm.drop : Cm dropM :=
  ((Cm.must [[84, 65, 66, 76, 69]]).bnd fun _ => Cm.name.bnd fun t => Cm.ret { stm0 2 with table := t }).of_eq (fun _ => rfl)
theorem Cm.remove : Cm removeM :=
  ((Cm.must [[70, 82, 79, 77]]).bnd fun _ => Cm.name.bnd fun t => (Cm.maybe [87, 72, 69, 82, 69]).bnd fun w => Cm.ret { stm0 5 with table := t, wh := w.toList }).of_eq (fun _ => rfl)
theorem Cm.cre : ∀ (n : Nat) (cs : List Col), Cm (creL n cs)
  | 0, cs => Cm.ret cs
  | n + 1, cs => by
    have hrest : Cm (bndM (if cs.length = 8 then fail' 2 else retM ()) fun _ => bndM coM fun c => bndM (must' [[44]]) fun _ => creL n (cs ++ [c])) :=
      (Cm.ite (Cm.fail 2) (Cm.ret ())).bnd fun _ => Cm.co.bnd fun c => (Cm.must [[44]]).bnd fun _ => Cm.cre n (cs ++ [c])
    intro r
    by_cases hc : r.c ≠ 0
    · have hc' : r.z.c ≠ 0 := hc
      unfold creL
      rw [if_pos hc, if_pos hc']
    have h0 : r.c = 0 := by simpa using hc
    have h0' : r.z.c = 0 := h0
    by_cases hcs : cs = []
    · have e : ∀ r : R, r.c = 0 → creL (n + 1) cs r = (bndM (if cs.length = 8 then fail' 2 else retM ()) fun _ => bndM coM fun c => bndM (must' [[44]]) fun _ => creL n (cs ++ [c])) r := fun r hc => by
        unfold creL
        rw [if_neg (by simp [hc]), if_neg (by simp [hcs])]
        simp only [bndM, ite_app, fail', retM, must']
        split <;> rfl
      rw [e _ h0, e _ h0']
      exact hrest r
    · have e : ∀ r : R, r.c = 0 → creL (n + 1) cs r = (bndM (hasM sPRIM) fun b => if b = true then retM cs else bndM (if cs.length = 8 then fail' 2 else retM ()) fun _ => bndM coM fun c => bndM (must' [[44]]) fun _ => creL n (cs ++ [c])) r := fun r hc => by
        unfold creL
        rw [if_neg (by simp [hc])]
        cases hb : (hasM sPRIM r).1 with
        | true =>
          rw [if_pos ⟨hcs, rfl⟩]
          simp only [bndM, ite_app, hb, if_true, retM]
        | false =>
          rw [if_neg (by simp)]
          simp only [bndM, ite_app, hb, Bool.false_eq_true, if_false, retM, fail', must', hasM_no hb]
          split <;> rfl
      rw [e _ h0, e _ h0']
      exact ((Cm.has sPRIM).bnd fun b => Cm.ite (c := b = true) (Cm.ret cs) hrest) r
theorem Cm.create : Cm createM :=
  ((Cm.must [[84, 65, 66, 76, 69]]).bnd fun _ => Cm.name.bnd fun t => (Cm.must [[40]]).bnd fun _ => (Cm.cre 10 []).bnd fun cs => (Cm.must [[75, 69, 89], [40]]).bnd fun _ => Cm.name.bnd fun p =>
    (Cm.must [[41], [41]]).bnd fun _ => Cm.ret { stm0 1 with table := t, cols := cs, prim := p }).of_eq (fun _ => rfl)
theorem Cm.join : Cm joinM :=
  ((Cm.has [74, 79, 73, 78]).bnd fun b => Cm.ite (c := b = true) (Cm.name.bnd fun n => (Cm.must [[79, 78]]).bnd fun _ => Cm.expr.bnd fun e => Cm.ret (n, some e)) (Cm.ret ([], none))).of_eq
    (fun r => by simp only [joinM, bndM, retM, must', ite_app])
theorem Cm.desc (o : Option Ex) : Cm (descM o) := by
  cases o with
  | none => exact Cm.ret false
  | some e => exact Cm.has _
theorem Cm.lim : Cm limM :=
  ((Cm.has [76, 73, 77, 73, 84]).bnd fun b => Cm.ite (c := b = true) ((Cm.take 3).bnd fun t => Cm.ret t.2) (Cm.ret (-1))).of_eq
    (fun r => by simp only [limM, bndM, retM, takeN, ite_app])
theorem Cm.choose : Cm chooseM :=
  ((Cm.many (one := choOne) (fun s => (Cm.item.bnd fun i => Cm.ret (s ++ [i])).of_eq (fun _ => rfl)) 8 []).bnd fun is => (Cm.must [[70, 82, 79, 77]]).bnd fun _ => Cm.name.bnd fun t => Cm.join.bnd fun j =>
    (Cm.maybe [87, 72, 69, 82, 69]).bnd fun w => (Cm.by [71, 82, 79, 85, 80]).bnd fun g => (Cm.by [79, 82, 68, 69, 82]).bnd fun o => (Cm.desc o).bnd fun d => Cm.lim.bnd fun l =>
      Cm.ret (Stm.mk 6 t [] [] [] [] is j.1 j.2.toList w.toList g.toList o.toList d l)).of_eq (fun _ => rfl)
theorem Cm.state : Cm stateM :=
  ((Cm.pass stOps).bnd fun k => Cm.ite (c := k = -1) ((Cm.fail 4).bnd fun _ => Cm.ret (stm0 0)) (Cm.ite (c := k = 0) Cm.create (Cm.ite (c := k = 1) Cm.drop (Cm.ite (c := k = 2) Cm.insert
    (Cm.ite (c := k = 3) Cm.update (Cm.ite (c := k = 4) Cm.remove Cm.choose)))))).of_eq
    (fun r => by simp only [stateM, bndM, retM, fail', ite_app])
theorem Cm.scr : ∀ (n : Nat) (out : List Stm), Cm (scrL n out)
  | 0, out => Cm.ret out
  | n + 1, out => by
    have h := (Cm.ite (c := out.length = 8) (Cm.fail 2) (Cm.ret ())).bnd fun _ => Cm.state.bnd fun s => (Cm.has [59]).bnd fun b => Cm.ite (c := b = true) (Cm.scr n (out ++ [s])) (Cm.ret (out ++ [s]))
    refine h.of_eq fun r => ?_
    show scrL (n + 1) out r = (bndM (if out.length = 8 then fail' 2 else retM ()) fun _ => bndM stateM fun s => bndM (hasM [59]) fun b => if b = true then scrL n (out ++ [s]) else retM (out ++ [s])) r
    unfold scrL
    have e1 : (if out.length = 8 then fail' 2 else retM ()) r = ((), if out.length = 8 then failM 2 r else r) := by split <;> rfl
    simp only [bndM, e1, retM, ite_app]
theorem end_z (r : R) : endM r.z = (endM r).z := by
  unfold endM
  rw [hd_z, failM_z]
  show (if r.c = 0 ∧ (hd r).kind ≠ 6 then _ else _) = _
  split <;> rfl
end Go.Proofs.YtpepmfhemjeocaaGreatDoor
end
section
/- Plain: the lexer where a line more stands behind, and further on. -/
set_option linter.unusedVariables false
set_option linter.unusedSimpArgs false
namespace Go.Proofs.YtpepmfhemjeocaaGreatDoor

theorem rowN_ext {p : UInt8 → Bool} {b : UInt8} (hp : p b = false) (t : Str) : ∀ s : Str, rowN p (s ++ b :: t) = rowN p s
  | [] => by simp [rowN, hp]
  | c :: s => by
    have ih := rowN_ext hp t s
    simp only [rowN, List.cons_append, List.takeWhile_cons] at ih ⊢
    cases p c
    · rfl
    · simp only [if_true, List.length_cons, ih]
theorem prefB_iff {s x : Str} : prefB s x = true ↔ x <+: s := by
  simp only [prefB, Bool.and_eq_true, decide_eq_true_eq, beq_iff_eq]
  constructor
  · rintro ⟨_, h⟩
    exact ⟨s.drop x.length, by conv => lhs; arg 1; rw [← h]
                               exact List.take_append_drop _ _⟩
  · rintro ⟨y, rfl⟩
    exact ⟨by simp; omega, by simp⟩
theorem pref_ext {b : UInt8} {t : Str} : ∀ {x s : Str}, b ∉ x → (x <+: s ++ b :: t ↔ x <+: s)
  | [], s, _ => by simp
  | a :: x, [], h => by
    have : a ≠ b := fun e => h (by simp [e])
    simp [this]
  | a :: x, d :: s, h => by
    simp only [List.cons_append, List.cons_prefix_cons]
    rw [pref_ext (x := x) (s := s) (fun e => h (by simp [e]))]
theorem prefB_ext {b : UInt8} {t x : Str} (s : Str) (h : b ∉ x) : prefB (s ++ b :: t) x = prefB s x := by
  rw [Bool.eq_iff_iff, prefB_iff, prefB_iff, pref_ext h]
theorem blankF_fuel : ∀ (n m : Nat) (s : Str), s.length ≤ n → s.length ≤ m → blankF n s = blankF m s
  | 0, m, s, h, h' => by
    have : s = [] := List.length_eq_zero_iff.1 (by omega)
    subst this
    cases m <;> rfl
  | n + 1, 0, s, h, h' => by
    have : s = [] := List.length_eq_zero_iff.1 (by omega)
    subst this
    rfl
  | n + 1, m + 1, [], h, h' => rfl
  | n + 1, m + 1, c :: r, h, h' => by
    simp only [List.length_cons] at h h'
    simp only [blankF]
    split
    · rw [blankF_fuel n m r (by omega) (by omega)]
    · split
      · rename_i hd
        have hk : 2 ≤ rowN lineB (c :: r) := rowN_dash (by simp only [Bool.and_eq_true] at hd; exact hd.2)
        rw [blankF_fuel n m _ (by simp only [List.length_drop, List.length_cons]; omega) (by simp only [List.length_drop, List.length_cons]; omega)]
      · rfl
theorem blankN_cons (c : UInt8) (r : Str) : blankN (c :: r) = if blankB c then 1 + blankN r else if ((c.toNat : Int) == 45) && prefB (c :: r) sDash then rowN lineB (c :: r) + blankN ((c :: r).drop (rowN lineB (c :: r))) else 0 := by
  show blankF (r.length + 1) (c :: r) = _
  simp only [blankF]
  split
  · rfl
  · split
    · rename_i hd
      have hk : 2 ≤ rowN lineB (c :: r) := rowN_dash (by simp only [Bool.and_eq_true] at hd; exact hd.2)
      rw [blankF_fuel r.length ((c :: r).drop (rowN lineB (c :: r))).length _ (by simp only [List.length_drop, List.length_cons]; omega) (Nat.le_refl _)]
      rfl
    · rfl
theorem blankN_ext (t : Str) : ∀ (n : Nat) (s : Str), s.length ≤ n → blankN (s ++ 10 :: t) = if blankN s = s.length then s.length + 1 + blankN t else blankN s
  | n, [], _ => by
    have h0 : blankN ([] : Str) = ([] : Str).length := rfl
    rw [if_pos h0]
    show blankN (10 :: t) = 0 + 1 + blankN t
    rw [blankN_cons, if_pos (by decide)]
  | 0, c :: r, h => by simp at h
  | n + 1, c :: r, h => by
    simp only [List.length_cons] at h
    have hl : blankN (c :: r) ≤ (c :: r).length := blankN_le _
    rw [List.cons_append, blankN_cons, blankN_cons c r]
    by_cases hb : blankB c = true
    · rw [if_pos hb, if_pos hb, blankN_ext t n r (by omega)]
      simp only [List.length_cons]
      by_cases h1 : blankN r = r.length
      · rw [if_pos h1, if_pos (by omega)]; omega
      · rw [if_neg h1, if_neg (by omega)]
    rw [if_neg hb, if_neg hb]
    have hp : prefB (c :: (r ++ 10 :: t)) sDash = prefB (c :: r) sDash := prefB_ext (c :: r) (by decide)
    rw [hp]
    by_cases hd : ((c.toNat : Int) == 45 && prefB (c :: r) sDash) = true
    · have hk : 2 ≤ rowN lineB (c :: r) := rowN_dash (by simp only [Bool.and_eq_true] at hd; exact hd.2)
      have hk2 := rowN_le lineB (c :: r)
      have hr : rowN lineB (c :: (r ++ 10 :: t)) = rowN lineB (c :: r) := rowN_ext (by decide) t (c :: r)
      have hdr : (c :: (r ++ 10 :: t)).drop (rowN lineB (c :: r)) = (c :: r).drop (rowN lineB (c :: r)) ++ 10 :: t := by
        rw [← List.cons_append, List.drop_append_of_le_length hk2]
      rw [if_pos hd, if_pos hd, hr, hdr]
      generalize rowN lineB (c :: r) = k at hk hk2 ⊢
      have ih := blankN_ext t n ((c :: r).drop k) (by simp only [List.length_drop, List.length_cons]; omega)
      rw [ih]
      have hl2 : ((c :: r).drop k).length = r.length + 1 - k := by simp
      rw [hl2]
      simp only [List.length_cons] at hk2 ⊢
      by_cases h1 : blankN ((c :: r).drop k) = r.length + 1 - k
      · rw [if_pos h1, if_pos (by omega)]; omega
      · rw [if_neg h1, if_neg (by omega)]
    · rw [if_neg hd, if_neg hd, if_neg (by simp)]

theorem indexByte_ext (t : Str) (c : UInt8) : ∀ (l : Str), 0 ≤ Lib.indexByte l c → Lib.indexByte (l ++ t) c = Lib.indexByte l c
  | [], h => by simp [Lib.indexByte] at h
  | b :: l, h => by
    simp only [Lib.indexByte, List.cons_append] at h ⊢
    split
    · rfl
    · rename_i hb
      rw [if_neg hb] at h
      by_cases h2 : (Lib.indexByte l c == -1) = true
      · rw [if_pos h2] at h; omega
      · have h3 : Lib.indexByte l c ≠ -1 := by simpa using h2
        have h4 := (indexByte_lt l c).1
        rw [indexByte_ext t c l (by omega)]
theorem quoteF_ext {b : UInt8} (hb : b ≠ 39) (t : Str) : ∀ (m m' : Nat) (rest out : Str) (a : Nat), (quoteF m rest out a).e = 0 → m ≤ m' → quoteF m' (rest ++ b :: t) out a = quoteF m rest out a
  | 0, m', rest, out, a, h, _ => by simp [quoteF] at h
  | m + 1, 0, rest, out, a, h, hm => by omega
  | m + 1, m' + 1, rest, out, a, h, hm => by
    have hlt := indexByte_lt rest 39
    unfold quoteF at h ⊢
    split at h
    · simp at h
    · rename_i h1
      rw [if_neg h1]
      have e1 := indexByte_ext (b :: t) 39 rest (by omega)
      rw [e1, if_neg h1]
      simp only at h ⊢
      have hk : (Lib.indexByte rest 39).toNat < rest.length := by omega
      rw [List.drop_append_of_le_length (by omega), prefB_ext _ (by simpa using hb), List.take_append_of_le_length (by omega)]
      split
      · rename_i hp
        rw [if_pos hp] at h
        have h3 : 1 ≤ (rest.drop ((Lib.indexByte rest 39).toNat + 1)).length := by
          cases hd : rest.drop ((Lib.indexByte rest 39).toNat + 1) with
          | nil => rw [hd] at hp; cases hp
          | cons => simp
        simp only [List.length_drop] at h3
        rw [List.drop_append_of_le_length (by omega)]
        exact quoteF_ext hb t m m' _ _ _ h (by omega)
      · rfl
theorem signF_ext {b : UInt8} (t : Str) : ∀ (l : List Str) (s : Str), (∀ x ∈ l, b ∉ x) → signF l (s ++ b :: t) = signF l s
  | [], s, _ => rfl
  | x :: l, s, h => by
    simp only [signF]
    rw [prefB_ext _ (h x (by simp)), signF_ext t l s fun y hy => h y (by simp [hy])]
theorem plainM_ext {b : UInt8} (hb : b = 10 ∨ b = 32) (t : Str) {s : Str} (hs : s ≠ []) {n : Nat} (hn : n ≤ s.length) : plainM (s ++ b :: t) n = plainM s n := by
  have hg : glued (s ++ b :: t) n = glued s n := by
    unfold glued
    rcases Nat.lt_or_ge n s.length with h | h
    · rw [List.getElem?_append_left h]
    · have : n = s.length := by omega
      subst this
      rw [List.getElem?_append_right (Nat.le_refl _), Nat.sub_self, List.getElem?_eq_none (Nat.le_refl _)]
      rcases hb with rfl | rfl <;> rfl
  unfold plainM
  rw [hg, List.take_append_of_le_length hn]
  cases s with
  | nil => exact absurd rfl hs
  | cons c r => rfl
theorem tokenM_ext {b : UInt8} (hb : b = 10 ∨ b = 32) (t : Str) {s : Str} (hs : s ≠ []) (h : (tokenM s).e = 0) : tokenM (s ++ b :: t) = tokenM s := by
  cases s with
  | nil => exact absurd rfl hs
  | cons c r =>
    have hp : ∀ p : UInt8 → Bool, p b = false → plain3 (c :: (r ++ b :: t)) (rowN p (c :: (r ++ b :: t))) = plain3 (c :: r) (rowN p (c :: r)) := by
      intro p h10
      have e1 : rowN p (c :: (r ++ b :: t)) = rowN p (c :: r) := rowN_ext h10 t (c :: r)
      have e2 : plainM (c :: (r ++ b :: t)) (rowN p (c :: r)) = plainM (c :: r) (rowN p (c :: r)) := plainM_ext hb t (s := c :: r) (by simp) (rowN_le p _)
      simp only [plain3, e1, e2]
    rw [List.cons_append]
    simp only [tokenM] at h ⊢
    split
    · rename_i h1
      rw [if_pos h1] at h
      exact quoteF_ext (by rcases hb with rfl | rfl <;> decide) t _ _ _ _ _ h (by simp)
    · rename_i h1
      rw [if_neg h1] at h
      split
      · exact hp smallB (by rcases hb with rfl | rfl <;> decide)
      · rename_i h2
        rw [if_neg h2] at h
        split
        · exact hp greatB (by rcases hb with rfl | rfl <;> decide)
        · rename_i h3
          rw [if_neg h3] at h
          split
          · exact hp digitB (by rcases hb with rfl | rfl <;> decide)
          · exact signF_ext t signsL (c :: r) (by rcases hb with rfl | rfl <;> decide)
theorem tokenM_kind {s : Str} (h : (tokenM s).e = 0) : (tokenM s).t.kind ≠ 6 := by
  have hsign : ∀ l s, (signF l s).e = 0 → (signF l s).t.kind ≠ 6 := by
    intro l
    induction l with
    | nil => intro s h; simp [signF] at h
    | cons x l ih =>
      intro s h
      unfold signF at h ⊢
      split
      · simp
      · rename_i hp
        rw [if_neg hp] at h
        exact ih s h
  have hquote : ∀ m rest out a, (quoteF m rest out a).e = 0 → (quoteF m rest out a).t.kind ≠ 6 := by
    intro m
    induction m with
    | zero => intro rest out a h; simp [quoteF] at h
    | succ m ih =>
      intro rest out a h
      unfold quoteF at h ⊢
      split at h
      · simp at h
      · rename_i h1
        rw [if_neg h1]
        simp only at h ⊢
        split
        · rename_i h2
          rw [if_pos h2] at h
          exact ih _ _ _ h
        · rename_i h2
          rw [if_neg h2] at h
          split
          · rename_i h3
            rw [if_pos h3] at h
            simp at h
          · simp
  have hplain : ∀ c r n, (plainM (c :: r) n).1.kind ≠ 6 := by
    intro c r n
    unfold plainM
    (repeat' split) <;> simp_all
  cases s with
  | nil => simp [tokenM] at h
  | cons c r =>
    simp only [tokenM] at h ⊢
    split
    · rename_i h1
      rw [if_pos h1] at h
      exact hquote _ _ _ _ h
    · rename_i h1
      rw [if_neg h1] at h
      split
      · exact hplain _ _ _
      · rename_i h2
        rw [if_neg h2] at h
        split
        · exact hplain _ _ _
        · rename_i h3
          rw [if_neg h3] at h
          split
          · exact hplain _ _ _
          · rename_i h4
            rw [if_neg h4] at h
            exact hsign _ _ h

theorem lexF_fuel : ∀ (n m : Nat) (rest : Str) (a : Nat) (acc : List Tok), rest.length < n → rest.length < m → lexF n rest a acc = lexF m rest a acc
  | 0, m, rest, a, acc, h, _ => by omega
  | n + 1, 0, rest, a, acc, _, h => by omega
  | n + 1, m + 1, rest, a, acc, h, h' => by
    unfold lexF
    split
    · rfl
    · rename_i h1
      split
      · rfl
      · rename_i h2
        have := tokenM_le h1 (by simpa using h2)
        simp only [List.length_drop] at this
        exact lexF_fuel n m _ _ _ (by simp only [List.length_drop]; omega) (by simp only [List.length_drop]; omega)
def endT (a : Nat) : Tok := ⟨6, [], 0, (a : Int)⟩
theorem lexF_ext (t : Str) : ∀ (n : Nat) (rest : Str) (a : Nat) (acc : List Tok), rest.length < n → (lexF n rest a acc).2.c = 0 → (∀ x ∈ acc, x.kind ≠ 6) → ∀ m, rest.length + 1 + t.length < m →
    ∃ pre, lexF n rest a acc = (pre ++ [endT (a + rest.length)], ⟨0, 0⟩) ∧ (∀ x ∈ pre, x.kind ≠ 6) ∧ lexF m (rest ++ 10 :: t) a acc = lexF (t.length + 1) t (a + rest.length + 1) pre
  | 0, rest, a, acc, h, _, _, m, _ => by omega
  | n + 1, rest, a, acc, h, hc, hacc, 0, hm => by omega
  | n + 1, rest, a, acc, h, hc, hacc, m + 1, hm => by
    have hbl := blankN_le rest
    have hbe := blankN_ext t rest.length rest (Nat.le_refl _)
    by_cases h1 : rest.drop (blankN rest) = []
    · have hk : blankN rest = rest.length := by
        have := congrArg List.length h1
        simp at this
        omega
      refine ⟨acc, ?_, hacc, ?_⟩
      · unfold lexF
        rw [if_pos h1, hk]
        rfl
      · rw [if_pos hk] at hbe
        have hd : (rest ++ 10 :: t).drop (rest.length + 1 + blankN t) = t.drop (blankN t) := by
          rw [Nat.add_assoc, ← List.drop_drop, List.drop_left', Nat.add_comm 1, List.drop_succ_cons]
          rfl
        have hd2 : ∀ j, (rest ++ 10 :: t).drop (rest.length + 1 + blankN t + j) = t.drop (blankN t + j) := fun j => by rw [← List.drop_drop, hd, List.drop_drop]
        conv => lhs; unfold lexF
        conv => rhs; unfold lexF
        rw [hbe, hd]
        rw [show a + (rest.length + 1 + blankN t) = a + rest.length + 1 + blankN t from by omega]
        split
        · rfl
        · rename_i h2
          split
          · rfl
          · rename_i h3
            have := tokenM_le h2 (by simpa using h3)
            simp only [List.length_drop] at this
            rw [hd2]
            exact lexF_fuel m t.length _ _ _ (by simp only [List.length_drop]; omega) (by simp only [List.length_drop]; omega)
    · have hk : blankN rest ≠ rest.length := fun e => h1 (by rw [e]; exact List.drop_length)
      rw [if_neg hk] at hbe
      unfold lexF at hc
      rw [if_neg h1] at hc
      by_cases h2 : (tokenM (rest.drop (blankN rest))).e ≠ 0
      · rw [if_pos h2] at hc
        exact absurd hc h2
      rw [if_neg h2] at hc
      have h2' : (tokenM (rest.drop (blankN rest))).e = 0 := by simpa using h2
      have hle := tokenM_le h1 h2'
      simp only [List.length_drop] at hle
      have hacc' : ∀ x ∈ acc ++ [{ (tokenM (rest.drop (blankN rest))).t with at_ := ((a + blankN rest : Nat) : Int) }], x.kind ≠ 6 := by
        intro x hx
        rcases List.mem_append.1 hx with hx | hx
        · exact hacc x hx
        · simp only [List.mem_singleton] at hx
          subst hx
          exact tokenM_kind h2'
      obtain ⟨pre, e1, e2, e3⟩ := lexF_ext t n _ _ _ (by simp only [List.length_drop]; omega) hc hacc' m (by simp only [List.length_drop]; omega)
      have hlen : ((rest.drop (blankN rest + (tokenM (rest.drop (blankN rest))).n)).length) = rest.length - (blankN rest + (tokenM (rest.drop (blankN rest))).n) := by simp
      refine ⟨pre, ?_, e2, ?_⟩
      · unfold lexF
        rw [if_neg h1, if_neg h2, e1, hlen]
        congr 4
        omega
      · have hd : (rest ++ 10 :: t).drop (blankN rest) = rest.drop (blankN rest) ++ 10 :: t := List.drop_append_of_le_length hbl
        have htk : tokenM ((rest ++ 10 :: t).drop (blankN rest)) = tokenM (rest.drop (blankN rest)) := by rw [hd]; exact tokenM_ext (.inl rfl) t h1 h2'
        conv => lhs; unfold lexF
        rw [hbe, htk, if_neg (by rw [hd]; simp), if_neg h2, List.drop_append_of_le_length (by omega), e3, hlen]
        congr 1
        omega
def shT (d : Nat) (t : Tok) : Tok := { t with at_ := t.at_ + (d : Int) }
theorem lexF_shift (d : Nat) (P : List Tok) : ∀ (n : Nat) (rest : Str) (a : Nat) (acc : List Tok), rest.length < n → (lexF n rest a acc).2.c = 0 → lexF n rest (a + d) (P ++ acc.map (shT d)) = (P ++ (lexF n rest a acc).1.map (shT d), ⟨0, 0⟩)
  | 0, rest, a, acc, h0, h => by omega
  | n + 1, rest, a, acc, h0, h => by
    unfold lexF at h ⊢
    split
    · rename_i h1
      simp [shT]
      omega
    · rename_i h1
      rw [if_neg h1] at h
      split
      · rename_i h2
        rw [if_pos h2] at h
        exact absurd h h2
      · rename_i h2
        rw [if_neg h2] at h
        have hle := tokenM_le h1 (by simpa using h2)
        simp only [List.length_drop] at hle
        have := lexF_shift d P n _ _ _ (by simp only [List.length_drop]; omega) h
        rw [← this]
        congr 1
        · omega
        · simp [shT]
          omega
end Go.Proofs.YtpepmfhemjeocaaGreatDoor
end
section
/- Values: what is wrong with one, how it is written. -/
set_option linter.unusedVariables false
set_option linter.unusedSimpArgs false
namespace Go.Proofs.YtpepmfhemjeocaaGreatDoor
open Go Go.Proofs Go.RowKit

def escT (t : Str) : Str := t.flatMap fun c => if c = 39 then [39, 39] else [c]
def quoteT (t : Str) : Str := 39 :: (escT t ++ [39])
def nullT : Str := [78, 85, 76, 76]
def litT (v : Vl) : Str := if v.k = 1 then Lib.itoa v.n else if v.k = 2 then quoteT v.t else nullT

theorem indexByte_at (c : UInt8) : ∀ (u r : Str), c ∉ u → Lib.indexByte (u ++ c :: r) c = u.length
  | [], r, _ => by simp [Lib.indexByte]
  | b :: u, r, h => by
    have hb : ¬ b = c := fun e => h (by simp [e])
    have ih := indexByte_at c u r fun hm => h (by simp [hm])
    simp only [Lib.indexByte, List.cons_append, ih, List.length_cons]
    split
    · rename_i e; exact absurd (by simpa using e) hb
    · split
      · rename_i e
        simp at e
      · omega
theorem esc_none : ∀ {t : Str}, 39 ∉ t → escT t = t
  | [], _ => rfl
  | c :: t, h => by
    have hc : ¬ c = 39 := fun e => h (by simp [e])
    have ih := esc_none (t := t) fun hm => h (by simp [hm])
    simp only [escT, List.flatMap_cons, if_neg hc] at ih ⊢
    rw [ih]
    rfl
theorem esc_len (t : Str) : (escT t).length ≤ 2 * t.length := by
  induction t with
  | nil => exact Nat.le_refl _
  | cons c t ih =>
    have he : escT (c :: t) = (if c = 39 then [39, 39] else [c]) ++ escT t := rfl
    rw [he, List.length_append, List.length_cons]
    split <;> simp only [List.length_cons, List.length_nil] <;> omega
theorem esc_app (u r : Str) : escT (u ++ r) = escT u ++ escT r := by simp [escT]
theorem first_at {c : UInt8} : ∀ {t : Str}, c ∈ t → ∃ u r, t = u ++ c :: r ∧ c ∉ u
  | [], h => by simp at h
  | b :: t, h => by
    by_cases hb : b = c
    · exact ⟨[], t, by simp [hb], by simp⟩
    · obtain ⟨u, r, rfl, hu⟩ := first_at (t := t) (by simpa [Ne.symm hb, eq_comm, hb] using h)
      exact ⟨b :: u, r, rfl, by simp [hu]; exact fun e => hb e.symm⟩
theorem replaceK_esc : ∀ (n : Nat) (t : Str), t.length < n → Lib.replaceK [39] [39, 39] (t.count 39) t = escT t
  | 0, t, h => by omega
  | n + 1, t, h => by
    by_cases hm : (39 : UInt8) ∈ t
    · obtain ⟨u, r, rfl, hu⟩ := first_at hm
      have hc : (u ++ 39 :: r).count 39 = r.count 39 + 1 := by
        rw [List.count_append, List.count_eq_zero.2 hu, List.count_cons_self, Nat.zero_add]
      have hi : Lib.index (u ++ 39 :: r) [39] = u.length := by rw [Lib.index_one, indexByte_at 39 u r hu]
      rw [hc, Lib.replaceK_hit _ _ _ _ u.length hi, esc_app, esc_none hu]
      have h1 : (u ++ 39 :: r).take u.length = u := by simp
      have h2 : (u ++ 39 :: r).drop (u.length + [(39 : UInt8)].length) = r := by simp
      rw [h1, h2, replaceK_esc n r (by simp at h; omega)]
      simp [escT]
    · rw [List.count_eq_zero.2 hm, esc_none hm]
      rfl
theorem replaceAll_esc (t : Str) : Lib.replaceAll t [39] [39, 39] = escT t := by
  unfold Lib.replaceAll Lib.replace Lib.replaceNum
  rw [if_neg (by decide), if_pos (.inl (by decide)), Lib.count_one]
  exact replaceK_esc _ t (Nat.lt_succ_self _)

theorem itoa_pc {n : Int} (h0 : -9223372036854775808 ≤ n) (h1 : n ≤ 9223372036854775807) : Pure Tryz.prog 97 [.int .i64 n] (.str (Lib.itoa n)) := by
  refine Pure.ofCalls (v := .string ⟨(Lib.itoa n).toArray⟩) ⟨_, Tryz.func97, by kernel_rfl, by kernel_rfl⟩ (fun G => .str _) ?_
  intro G w vs hi hv
  cases hv with
  | cons _ _ _ _ h1' h2 =>
  cases h1'
  cases h2
  refine (Tryz.strconv_Itoa n h0 h1 w hi.tab.1).mono ?_
  rintro e w' ⟨rfl, k, os, rfl⟩
  exact ⟨rfl, Lib.below_grow _ w (Nat.le_refl _) k os⟩
theorem esc_pc {t : Str} (ht : t.length ≤ 100000) : Pure Tryz.prog 98 [.str t, .str [39], .str [39, 39]] (.str (escT t)) := by
  refine Pure.ofCalls (v := .string ⟨(escT t).toArray⟩) ⟨_, Tryz.func98, by kernel_rfl, by kernel_rfl⟩ (fun G => .str _) ?_
  intro G w vs hi hv
  cases hv with
  | cons _ _ _ _ h1 h2 =>
  cases h1
  cases h2 with
  | cons _ _ _ _ h1 h2 =>
  cases h1
  cases h2 with
  | cons _ _ _ _ h1 h2 =>
  cases h1
  cases h2
  obtain ⟨m, hm⟩ := hi.tab.2
  have hsz : (⟨t.toArray⟩ : ByteArray).size = t.length := rfl
  have hcnt : Lib.countB (⟨t.toArray⟩ : ByteArray) ⟨[(39 : UInt8)].toArray⟩ ≤ t.length := by
    show Lib.count t [39] ≤ _
    rw [Lib.count_one]
    exact List.count_le_length
  refine (Tryz.strings_ReplaceAll ⟨t.toArray⟩ ⟨[39].toArray⟩ ⟨[39, 39].toArray⟩ m w (by rw [hsz]; omega) hm (Nat.le_refl 1) ?_).mono ?_
  · have h2 : (⟨[(39 : UInt8), 39].toArray⟩ : ByteArray).size = 2 := rfl
    rw [hsz, h2]
    omega
  · rintro e w' ⟨rfl, hb⟩
    refine ⟨?_, hb⟩
    show Ending.returned (Value.string ⟨(Lib.replaceAll t [39] [39, 39]).toArray⟩) = _
    rw [replaceAll_esc]

theorem literal_text {v : Vl} (h0 : -9223372036854775808 ≤ v.n) (h1 : v.n ≤ 9223372036854775807) (ht : v.t.length ≤ 100000) :
    Pure Tryz.prog 40 [vPV v] (.str (litT v)) := by
  have he := esc_len v.t
  have hA : 1 + (escT v.t).length ≤ 9223372036854775807 := by omega
  have hB : (escT v.t).length + 1 + 1 ≤ 9223372036854775807 := by omega
  unfold vPV vC
  refine PC.intro tab_ok Tryz.func40 rfl (by kernel_rfl) Tryz.ntmps40 (Nat.le_of_ble_eq_true rfl) (rs := _) (congrArg Array.toList Tryz.results40) ?_
  (repeat (refine PW.go tab_ok [] fun K hK => ?_; simp only [go_sem, ↓reduceIte, reduceCtorEq, Nat.reduceBEq, Nat.reduceAdd, Nat.reduceMul, Nat.reduceSub, Nat.reduceLT, Nat.reduceLeDiff, Nat.reduceEqDiff]; (refine hK _ _ ?_; clear hK K)))
  refine PW.seq_k fun K0 hK0 => ?_
  refine PW.go tab_ok [] fun K hK => ?_
  simp only [go_sem, ↓reduceIte, reduceCtorEq, Nat.reduceBEq, Nat.reduceAdd, Nat.reduceMul, Nat.reduceSub, Nat.reduceLT, Nat.reduceLeDiff, Nat.reduceEqDiff]
  (refine hK _ _ ?_; (try clear hK); (try clear K))
  refine PW.block ?_
  refine PW.go tab_ok [] fun K hK => ?_
  simp only [go_sem, ↓reduceIte, reduceCtorEq, Nat.reduceBEq, Nat.reduceAdd, Nat.reduceMul, Nat.reduceSub, Nat.reduceLT, Nat.reduceLeDiff, Nat.reduceEqDiff]
  (refine hK _ _ ?_; (try clear hK); (try clear K))
  refine PW.cond_split (b := v.k == 1) rfl ?_ ?_ <;> intro hb1
  · refine PW.go tab_ok [] fun K hK => ?_
    simp only [go_sem, ↓reduceIte, reduceCtorEq, Nat.reduceBEq, Nat.reduceAdd, Nat.reduceMul, Nat.reduceSub, Nat.reduceLT, Nat.reduceLeDiff, Nat.reduceEqDiff]
    refine (itoa_pc h0 h1).use (Weaks.refl _) rfl rfl ?_
    refine PO.go tab_ok [] ?_
    simp only [go_sem, ↓reduceIte, reduceCtorEq, Nat.reduceBEq, Nat.reduceAdd, Nat.reduceMul, Nat.reduceSub, Nat.reduceLT, Nat.reduceLeDiff, Nat.reduceEqDiff]
    (refine hK _ _ ?_; (try clear hK); (try clear K))
    exact PW.ret (Pure.ret rfl (by simp only [litT, if_pos (beq_iff_eq.1 hb1)]; rfl) rfl)
  refine PW.go tab_ok [] fun K hK => ?_
  simp only [go_sem, ↓reduceIte, reduceCtorEq, Nat.reduceBEq, Nat.reduceAdd, Nat.reduceMul, Nat.reduceSub, Nat.reduceLT, Nat.reduceLeDiff, Nat.reduceEqDiff]
  (refine hK _ _ ?_; (try clear hK); (try clear K))
  refine PW.cond_split (b := v.k == 2) rfl ?_ ?_ <;> intro hb2
  · refine PW.go tab_ok [] fun K hK => ?_
    simp only [go_sem, ↓reduceIte, reduceCtorEq, Nat.reduceBEq, Nat.reduceAdd, Nat.reduceMul, Nat.reduceSub, Nat.reduceLT, Nat.reduceLeDiff, Nat.reduceEqDiff]
    refine (esc_pc ht).use (Weaks.refl _) rfl rfl ?_
    refine PO.go tab_ok [] ?_
    simp only [hA, hB, go_sem, ↓reduceIte, reduceCtorEq, Nat.reduceBEq, Nat.reduceAdd, Nat.reduceMul, Nat.reduceSub, Nat.reduceLT, Nat.reduceLeDiff, Nat.reduceEqDiff]
    (refine hK _ _ ?_; (try clear hK); (try clear K))
    exact PW.ret (Pure.ret rfl (by simp only [litT, if_neg (beq_eq_false_iff_ne.1 hb1), if_pos (beq_iff_eq.1 hb2)]; rfl) rfl)
  refine PW.skip (hK0 _ _ ?_); clear hK0 K0
  (repeat (refine PW.go tab_ok [] fun K hK => ?_; simp only [go_sem, ↓reduceIte, reduceCtorEq, Nat.reduceBEq, Nat.reduceAdd, Nat.reduceMul, Nat.reduceSub, Nat.reduceLT, Nat.reduceLeDiff, Nat.reduceEqDiff]; (refine hK _ _ ?_; clear hK K)))
  exact PW.ret (Pure.ret rfl (by simp only [litT, if_neg (beq_eq_false_iff_ne.1 hb1), if_neg (beq_eq_false_iff_ne.1 hb2)]; rfl) rfl)

def nameB (s : Str) : Bool := match s with
  | [] => false
  | c :: r => decide ((c :: r).length ≤ 16) && firstB c && (rowN smallB (c :: r) == (c :: r).length)

/-! ### What is wrong with a value -/
def bareM (v : Vl) : Vl := if v.k = 0 then ⟨0, 0, []⟩ else if v.k = 1 then ⟨v.k, v.n, []⟩ else if v.k = 2 then ⟨v.k, 0, v.t⟩ else v
theorem bare_pc (v : Vl) : Pure Tryz.prog 168 [vPV v] (vPV (bareM v)) := by
  unfold vPV vC
  refine PC.intro tab_ok Tryz.func168 rfl (by kernel_rfl) Tryz.ntmps168 (Nat.le_of_ble_eq_true rfl) (rs := _) (congrArg Array.toList Tryz.results168) ?_
  (repeat (refine PW.go tab_ok [] fun K hK => ?_; simp only [go_sem, ↓reduceIte, reduceCtorEq, Nat.reduceBEq, Nat.reduceAdd, Nat.reduceMul, Nat.reduceSub, Nat.reduceLT, Nat.reduceLeDiff, Nat.reduceEqDiff]; (refine hK _ _ ?_; clear hK K)))
  refine PW.seq_k fun K0 hK0 => ?_
  refine PW.go tab_ok [] fun K hK => ?_
  simp only [go_sem, ↓reduceIte, reduceCtorEq, Nat.reduceBEq, Nat.reduceAdd, Nat.reduceMul, Nat.reduceSub, Nat.reduceLT, Nat.reduceLeDiff, Nat.reduceEqDiff]
  (refine hK _ _ ?_; (try clear hK); (try clear K))
  refine PW.block ?_
  refine PW.go tab_ok [] fun K hK => ?_
  simp only [go_sem, ↓reduceIte, reduceCtorEq, Nat.reduceBEq, Nat.reduceAdd, Nat.reduceMul, Nat.reduceSub, Nat.reduceLT, Nat.reduceLeDiff, Nat.reduceEqDiff]
  (refine hK _ _ ?_; (try clear hK); (try clear K))
  refine PW.cond_split (b := v.k == 0) rfl ?_ ?_ <;> intro hb0
  · refine PW.go tab_ok [] fun K hK => ?_
    simp only [go_sem, ↓reduceIte, reduceCtorEq, Nat.reduceBEq, Nat.reduceAdd, Nat.reduceMul, Nat.reduceSub, Nat.reduceLT, Nat.reduceLeDiff, Nat.reduceEqDiff]
    (refine hK _ _ ?_; (try clear hK); (try clear K))
    exact PW.ret (Pure.ret rfl (by simp only [bareM, if_pos (beq_iff_eq.1 hb0)]; rfl) rfl)
  refine PW.go tab_ok [] fun K hK => ?_
  simp only [go_sem, ↓reduceIte, reduceCtorEq, Nat.reduceBEq, Nat.reduceAdd, Nat.reduceMul, Nat.reduceSub, Nat.reduceLT, Nat.reduceLeDiff, Nat.reduceEqDiff]
  (refine hK _ _ ?_; (try clear hK); (try clear K))
  refine PW.cond_split (b := v.k == 1) rfl ?_ ?_ <;> intro hb1
  · refine PW.goL tab_ok [] fun K hK => ?_
    simp only [go_sem, ↓reduceIte, reduceCtorEq, Nat.reduceBEq, Nat.reduceAdd, Nat.reduceMul, Nat.reduceSub, Nat.reduceLT, Nat.reduceLeDiff, Nat.reduceEqDiff]
    (refine hK _ _ ?_; (try clear hK); (try clear K))
    (refine hK0 _ _ ?_); clear hK0 K0
    refine PW.go tab_ok [] fun K hK => ?_
    simp only [go_sem, ↓reduceIte, reduceCtorEq, Nat.reduceBEq, Nat.reduceAdd, Nat.reduceMul, Nat.reduceSub, Nat.reduceLT, Nat.reduceLeDiff, Nat.reduceEqDiff]
    (refine hK _ _ ?_; (try clear hK); (try clear K))
    exact PW.ret (Pure.ret rfl (by simp only [bareM, if_neg (beq_eq_false_iff_ne.1 hb0), if_pos (beq_iff_eq.1 hb1)]; rfl) rfl)
  refine PW.go tab_ok [] fun K hK => ?_
  simp only [go_sem, ↓reduceIte, reduceCtorEq, Nat.reduceBEq, Nat.reduceAdd, Nat.reduceMul, Nat.reduceSub, Nat.reduceLT, Nat.reduceLeDiff, Nat.reduceEqDiff]
  (refine hK _ _ ?_; (try clear hK); (try clear K))
  refine PW.cond_split (b := v.k == 2) rfl ?_ ?_ <;> intro hb2
  · refine PW.goL tab_ok [] fun K hK => ?_
    simp only [go_sem, ↓reduceIte, reduceCtorEq, Nat.reduceBEq, Nat.reduceAdd, Nat.reduceMul, Nat.reduceSub, Nat.reduceLT, Nat.reduceLeDiff, Nat.reduceEqDiff]
    (refine hK _ _ ?_; (try clear hK); (try clear K))
    (refine hK0 _ _ ?_); clear hK0 K0
    refine PW.go tab_ok [] fun K hK => ?_
    simp only [go_sem, ↓reduceIte, reduceCtorEq, Nat.reduceBEq, Nat.reduceAdd, Nat.reduceMul, Nat.reduceSub, Nat.reduceLT, Nat.reduceLeDiff, Nat.reduceEqDiff]
    (refine hK _ _ ?_; (try clear hK); (try clear K))
    exact PW.ret (Pure.ret rfl (by simp only [bareM, if_neg (beq_eq_false_iff_ne.1 hb0), if_neg (beq_eq_false_iff_ne.1 hb1), if_pos (beq_iff_eq.1 hb2)]; rfl) rfl)
  refine PW.skip (hK0 _ _ ?_); clear hK0 K0
  refine PW.go tab_ok [] fun K hK => ?_
  simp only [go_sem, ↓reduceIte, reduceCtorEq, Nat.reduceBEq, Nat.reduceAdd, Nat.reduceMul, Nat.reduceSub, Nat.reduceLT, Nat.reduceLeDiff, Nat.reduceEqDiff]
  (refine hK _ _ ?_; (try clear hK); (try clear K))
  exact PW.ret (Pure.ret rfl (by simp only [bareM, if_neg (beq_eq_false_iff_ne.1 hb0), if_neg (beq_eq_false_iff_ne.1 hb1), if_neg (beq_eq_false_iff_ne.1 hb2)]; rfl) rfl)
def vlNe (a b : Vl) : Bool := !(a.k == b.k && (a.n == b.n && (a.t == b.t && true)))
def rightV (v : Vl) : Int := if v.k < 0 ∨ v.k > 2 ∨ vlNe v (bareM v) = true then 4 else if (v.t.length : Int) > 40 then 2 else 0
theorem Right_pc (v : Vl) : Pure Tryz.prog 117 [vPV v] (.int .i64 (rightV v)) := by
  have hb := bare_pc v
  unfold vPV vC at hb ⊢
  refine PC.intro tab_ok Tryz.func117 rfl (by kernel_rfl) Tryz.ntmps117 (Nat.le_of_ble_eq_true rfl) (rs := _) (congrArg Array.toList Tryz.results117) ?_
  (repeat (refine PW.go tab_ok [] fun K hK => ?_; simp only [go_sem, ↓reduceIte, reduceCtorEq, Nat.reduceBEq, Nat.reduceAdd, Nat.reduceMul, Nat.reduceSub, Nat.reduceLT, Nat.reduceLeDiff, Nat.reduceEqDiff]; (refine hK _ _ ?_; clear hK K)))
  refine PW.seq_k fun K0 hK0 => ?_
  refine PW.block ?_
  refine PW.seq_k fun K1 hK1 => ?_
  have hgo : ∀ {env : Env} {st : St} (b : Bool), Sub env [(1, .ref 0 0), (3, .bool b)] → st = ⟨[[.int .i64 v.k, .int .i64 v.n, .str v.t]], []⟩ → (b = true ↔ v.k < 0 ∨ v.k > 2 ∨ vlNe v (bareM v) = true) → K1 env st := by
    rintro env st b hsub rfl hbad
    refine hK1 _ _ (PW.less _ hsub ?_)
    refine PW.cond_split (b := b) rfl ?_ ?_ <;> intro h1
    · (repeat (refine PW.go tab_ok [] fun K hK => ?_; simp only [go_sem, ↓reduceIte, reduceCtorEq, Nat.reduceBEq, Nat.reduceAdd, Nat.reduceMul, Nat.reduceSub, Nat.reduceLT, Nat.reduceLeDiff, Nat.reduceEqDiff]; (refine hK _ _ ?_; clear hK K)))
      exact PW.ret (Pure.ret rfl (by simp only [rightV, if_pos (hbad.1 h1)]; rfl) rfl)
    have hg : ¬ (v.k < 0 ∨ v.k > 2 ∨ vlNe v (bareM v) = true) := fun h => by rw [hbad.2 h] at h1; cases h1
    refine PW.go tab_ok [] fun K hK => ?_
    simp only [go_sem, ↓reduceIte, reduceCtorEq, Nat.reduceBEq, Nat.reduceAdd, Nat.reduceMul, Nat.reduceSub, Nat.reduceLT, Nat.reduceLeDiff, Nat.reduceEqDiff]
    (refine hK _ _ ?_; (try clear hK); (try clear K))
    refine PW.cond_split (b := decide ((v.t.length : Int) > 40)) rfl ?_ ?_ <;> intro h2
    · have h2' : (v.t.length : Int) > 40 := by simpa using h2
      (repeat (refine PW.go tab_ok [] fun K hK => ?_; simp only [go_sem, ↓reduceIte, reduceCtorEq, Nat.reduceBEq, Nat.reduceAdd, Nat.reduceMul, Nat.reduceSub, Nat.reduceLT, Nat.reduceLeDiff, Nat.reduceEqDiff]; (refine hK _ _ ?_; clear hK K)))
      exact PW.ret (Pure.ret rfl (by simp only [rightV, if_neg hg, if_pos h2']; rfl) rfl)
    have h2' : ¬ (v.t.length : Int) > 40 := by simpa using h2
    refine PW.skip (hK0 _ _ ?_)
    (repeat (refine PW.go tab_ok [] fun K hK => ?_; simp only [go_sem, ↓reduceIte, reduceCtorEq, Nat.reduceBEq, Nat.reduceAdd, Nat.reduceMul, Nat.reduceSub, Nat.reduceLT, Nat.reduceLeDiff, Nat.reduceEqDiff]; (refine hK _ _ ?_; clear hK K)))
    exact PW.ret (Pure.ret rfl (by simp only [rightV, if_neg hg, if_neg h2']; rfl) rfl)
  refine PW.go tab_ok [] fun K hK => ?_
  simp only [go_sem, ↓reduceIte, reduceCtorEq, Nat.reduceBEq, Nat.reduceAdd, Nat.reduceMul, Nat.reduceSub, Nat.reduceLT, Nat.reduceLeDiff, Nat.reduceEqDiff]
  (refine hK _ _ ?_; (try clear hK); (try clear K))
  refine PW.cond_split (b := decide (v.k < 0)) rfl ?_ ?_ <;> intro h1
  · refine PW.skip ?_
    exact hgo true (by simp [Sub, eget, h1]) rfl (by simpa using .inl (of_decide_eq_true h1))
  refine PW.go tab_ok [] fun K hK => ?_
  simp only [go_sem, ↓reduceIte, reduceCtorEq, Nat.reduceBEq, Nat.reduceAdd, Nat.reduceMul, Nat.reduceSub, Nat.reduceLT, Nat.reduceLeDiff, Nat.reduceEqDiff]
  (refine hK _ _ ?_; (try clear hK); (try clear K))
  refine PW.cond_split (b := decide (v.k > 2)) rfl ?_ ?_ <;> intro h2
  · refine PW.skip ?_
    exact hgo true (by simp [Sub, eget, h2]) rfl (by simpa using .inr (.inl (of_decide_eq_true h2)))
  refine PW.draw tab_ok mixed [] [(0, []), (1, []), (2, [0]), (3, []), (4, [])] (by kernel_rfl) fun K hK => ?_
  simp only [go_sem, ↓reduceIte, reduceCtorEq, Nat.reduceBEq, Nat.reduceAdd, Nat.reduceMul, Nat.reduceSub, Nat.reduceLT, Nat.reduceLeDiff, Nat.reduceEqDiff]
  refine hb.use (Weaks.refl _) rfl rfl ?_
  refine ⟨?_, GO.go tab_ok ?_⟩
  · simp only [go_sem, ↓reduceIte, reduceCtorEq, Nat.reduceBEq, Nat.reduceAdd, Nat.reduceMul, Nat.reduceSub, Nat.reduceLT, Nat.reduceLeDiff, Nat.reduceEqDiff]
  simp only [eqCells, go_sem, ↓reduceIte, reduceCtorEq, Nat.reduceBEq, Nat.reduceAdd, Nat.reduceMul, Nat.reduceSub, Nat.reduceLT, Nat.reduceLeDiff, Nat.reduceEqDiff]
  (refine hK _ _ ?_; (try clear hK); (try clear K))
  refine hgo (vlNe v (bareM v)) (by simp [Sub, eget, vlNe]) rfl ?_
  have g1 : ¬ v.k < 0 := of_decide_eq_false h1
  have g2 : ¬ v.k > 2 := of_decide_eq_false h2
  constructor
  · intro h; exact .inr (.inr h)
  · rintro (h | h | h)
    · exact absurd h g1
    · exact absurd h g2
    · exact h
end Go.Proofs.YtpepmfhemjeocaaGreatDoor
end
section
/- Plain: tokens that are written with one blank between are read as they were. -/
set_option linter.unusedVariables false
set_option linter.unusedSimpArgs false
namespace Go.Proofs.YtpepmfhemjeocaaGreatDoor

def tokS (t : Tok) : Str := if t.kind = 3 then Lib.itoa t.num else if t.kind = 4 then quoteT t.text else t.text
/-- A token that may be written. -/
inductive WfT : Tok → Prop
  | name (s : Str) (a : Int) (h : nameB s = true) : WfT ⟨1, s, 0, a⟩
  | word (s : Str) (a : Int) (h : s ∈ wordsL) : WfT ⟨2, s, 0, a⟩
  | num (n a : Int) (h0 : 0 ≤ n) (h : n ≤ 9223372036854775807) : WfT ⟨3, [], n, a⟩
  | text (s : Str) (a : Int) (h : s.length ≤ 40) : WfT ⟨4, s, 0, a⟩
  | sign (s : Str) (a : Int) (h : s ∈ signsL) : WfT ⟨5, s, 0, a⟩

/-! ### Texts -/
theorem quoteF_esc : ∀ (t u out : Str) (m a : Nat), 39 ∉ u → (out ++ u ++ t).length ≤ 40 → t.length < m → quoteF m (u ++ escT t ++ [39]) out a = ⟨⟨4, out ++ u ++ t, 0, 0⟩, a + u.length + (escT t).length + 1, 0⟩
  | [], u, out, 0, a, _, _, h => by simp at h
  | [], u, out, m + 1, a, hu, hl, _ => by
    have hi : Lib.indexByte (u ++ escT [] ++ [39]) 39 = u.length := by
      have := indexByte_at 39 u [] hu
      simpa [escT] using this
    unfold quoteF
    rw [hi, if_neg (by omega)]
    simp only [Int.toNat_natCast]
    have h1 : (u ++ escT [] ++ [39]).drop (u.length + 1) = [] := by simp [escT]
    have h2 : (u ++ escT [] ++ [39]).take u.length = u := by simp [escT]
    rw [h1, h2]
    simp only [List.append_nil] at hl
    rw [if_neg (by decide), if_neg (by omega)]
    simp [escT]
  | c :: t, u, out, m, a, hu, hl, hm => by
    by_cases hc : c = 39
    · subst hc
      obtain ⟨m, rfl⟩ : ∃ k, m = k + 1 := ⟨m - 1, by simp at hm; omega⟩
      have he : escT (39 :: t) = 39 :: 39 :: escT t := by simp [escT]
      have hi : Lib.indexByte (u ++ escT (39 :: t) ++ [39]) 39 = u.length := by
        rw [he]
        have := indexByte_at 39 u (39 :: (escT t ++ [39])) hu
        simpa using this
      unfold quoteF
      rw [hi, if_neg (by omega)]
      simp only [Int.toNat_natCast]
      have h1 : (u ++ escT (39 :: t) ++ [39]).drop (u.length + 1) = 39 :: (escT t ++ [39]) := by rw [he]; simp
      have h2 : (u ++ escT (39 :: t) ++ [39]).take u.length = u := by rw [he]; simp
      have h3 : (u ++ escT (39 :: t) ++ [39]).drop (u.length + 2) = escT t ++ [39] := by
        have : (u ++ escT (39 :: t) ++ [39]).drop (u.length + 2) = ((u ++ escT (39 :: t) ++ [39]).drop (u.length + 1)).drop 1 := by rw [List.drop_drop]
        rw [this, h1]
        rfl
      have hp : prefB (39 :: (escT t ++ [39])) [39] = true := by rw [prefB_iff]; simp
      rw [h1, h2, h3, hp, if_pos rfl]
      have ih := quoteF_esc t [] (out ++ u ++ [39]) m (a + u.length + 2) (by simp) (by simp at hl ⊢; omega) (by simp at hm; omega)
      simp only [List.nil_append] at ih
      rw [ih, he]
      congr 1
      · simp
      · simp; omega
    · have he : escT (c :: t) = c :: escT t := by simp [escT, hc]
      have ih := quoteF_esc t (u ++ [c]) out m a (by simp [hu]; exact fun e => hc e.symm) (by simpa using hl) (by simp at hm; omega)
      have e1 : u ++ escT (c :: t) ++ [39] = u ++ [c] ++ escT t ++ [39] := by rw [he]; simp
      rw [e1, ih, he]
      congr 1
      · simp
      · simp; omega
theorem esc_ge (t : Str) : t.length ≤ (escT t).length := by
  induction t with
  | nil => simp
  | cons c t ih =>
    have he : escT (c :: t) = (if c = 39 then [39, 39] else [c]) ++ escT t := rfl
    rw [he, List.length_append, List.length_cons]
    split <;> simp only [List.length_cons, List.length_nil] <;> omega
theorem token_text {t : Str} (h : t.length ≤ 40) : tokenM (quoteT t) = ⟨⟨4, t, 0, 0⟩, (quoteT t).length, 0⟩ := by
  show quotedM (quoteT t) = _
  unfold quotedM
  have h1 : (quoteT t).drop 1 = [] ++ escT t ++ [39] := rfl
  have hesc := esc_ge t
  rw [h1, quoteF_esc t [] [] (quoteT t).length 1 (by simp) (by simpa using h) (by simp [quoteT]; omega)]
  simp [quoteT]
  omega
/-! ### Numbers -/
theorem numF_append : ∀ (xs ys : Str) (n : Int), (numF n xs).2 = 0 → numF n (xs ++ ys) = numF (numF n xs).1 ys
  | [], ys, n, _ => rfl
  | c :: xs, ys, n, h => by
    simp only [numF, List.cons_append] at h ⊢
    split
    · rename_i hb
      rw [if_pos hb] at h
      exact absurd h (by decide)
    · rename_i hb
      rw [if_neg hb] at h
      exact numF_append xs ys _ h
theorem digit_facts {r : Nat} (h : r < 10) : dgI (UInt8.ofNat (48 + r)) = r ∧ digitB (UInt8.ofNat (48 + r)) = true ∧ firstB (UInt8.ofNat (48 + r)) = false ∧ greatB (UInt8.ofNat (48 + r)) = false ∧ blankB (UInt8.ofNat (48 + r)) = false ∧ UInt8.ofNat (48 + r) ≠ 39 ∧ UInt8.ofNat (48 + r) ≠ 45 := by
  rcases r with _ | _ | _ | _ | _ | _ | _ | _ | _ | _ | r
  all_goals first | decide | omega
theorem i64_id {n : Int} (h0 : 0 ≤ n) (h : n ≤ 9223372036854775807) : IntKind.i64.wrap n = n := by
  simp only [IntKind.wrap, IntKind.bits, IntKind.signed]
  simp
  omega
theorem numF_dec : ∀ (k u : Nat), u < k → (u : Int) ≤ 9223372036854775807 → numF 0 (Lib.decDigits u) = ((u : Int), 0)
  | 0, u, h, _ => by omega
  | k + 1, u, h, hm => by
    unfold Lib.decDigits
    split
    · rename_i h10
      obtain ⟨h1, _⟩ := digit_facts h10
      simp only [numF]
      have hb : numBad 0 (UInt8.ofNat (48 + u)) = false := by simp [numBad]
      rw [hb]
      simp only [numStep, h1, Bool.false_eq_true, if_false]
      rw [Int.mul_zero, show IntKind.i64.wrap 0 = 0 from rfl, Int.zero_add, i64_id (by omega) hm]
    · rename_i h10
      obtain ⟨h1, _⟩ := digit_facts (r := u % 10) (by omega)
      have ih := numF_dec k (u / 10) (by omega) (by omega)
      rw [numF_append _ _ _ (by rw [ih]), ih]
      simp only [numF]
      have hb : numBad ((u / 10 : Nat) : Int) (UInt8.ofNat (48 + u % 10)) = false := by
        simp only [numBad, h1, Bool.or_eq_false_iff, Bool.and_eq_false_iff, decide_eq_false_iff_not]
        refine ⟨by omega, ?_⟩
        by_cases he : ((u / 10 : Nat) : Int) = 922337203685477580
        · right; omega
        · left; exact beq_eq_false_iff_ne.2 he
      rw [hb]
      simp only [numStep, h1, Bool.false_eq_true, if_false]
      rw [i64_id (n := 10 * ((u / 10 : Nat) : Int)) (by omega) (by omega), i64_id (by omega) (by omega)]
      congr 1
      omega
theorem dec_digits : ∀ (k u : Nat), u < k → (∀ c ∈ Lib.decDigits u, digitB c = true) ∧ ∃ r x, r < 10 ∧ Lib.decDigits u = UInt8.ofNat (48 + r) :: x
  | 0, u, h => by omega
  | k + 1, u, h => by
    unfold Lib.decDigits
    split
    · rename_i h10
      obtain ⟨_, h2, _⟩ := digit_facts h10
      exact ⟨by intro c hc; rw [List.mem_singleton.1 hc]; exact h2, u, [], h10, rfl⟩
    · rename_i h10
      obtain ⟨_, h2, _⟩ := digit_facts (r := u % 10) (by omega)
      obtain ⟨ih1, r, x, hr, ih2⟩ := dec_digits k (u / 10) (by omega)
      refine ⟨?_, r, x ++ [UInt8.ofNat (48 + u % 10)], hr, by rw [ih2]; rfl⟩
      intro c hc
      rcases List.mem_append.1 hc with hc | hc
      · exact ih1 c hc
      · rw [List.mem_singleton.1 hc]; exact h2
theorem rowN_all {p : UInt8 → Bool} : ∀ {s : Str}, (∀ c ∈ s, p c = true) → rowN p s = s.length
  | [], _ => rfl
  | c :: s, h => by
    have ih := rowN_all (p := p) (s := s) fun d hd => h d (by simp [hd])
    simp only [rowN, List.takeWhile_cons, h c (by simp), if_true, List.length_cons] at ih ⊢
    omega
theorem glued_end (s : Str) : glued s s.length = false := by
  unfold glued
  rw [List.getElem?_eq_none (Nat.le_refl _)]
theorem token_num {n : Int} (h0 : 0 ≤ n) (h : n ≤ 9223372036854775807) : tokenM (Lib.itoa n) = ⟨⟨3, [], n, 0⟩, (Lib.itoa n).length, 0⟩ := by
  have hi : Lib.itoa n = Lib.decDigits n.toNat := by unfold Lib.itoa; rw [if_neg (by omega)]
  rw [hi]
  obtain ⟨h1, r, x, hr, h2⟩ := dec_digits (n.toNat + 1) n.toNat (by omega)
  obtain ⟨_, f2, f3, f4, _, f6, _⟩ := digit_facts hr
  have hnum := numF_dec (n.toNat + 1) n.toNat (by omega) (by omega)
  have hrow := rowN_all h1
  rw [h2] at hnum hrow h1 ⊢
  generalize UInt8.ofNat (48 + r) = c at f2 f3 f4 f6 hnum hrow h1 ⊢
  have h39 : ((c.toNat : Int) == 39) = false := by
    refine beq_eq_false_iff_ne.2 fun e => f6 ?_
    have : c.toNat = 39 := by omega
    exact UInt8.toNat_inj.1 (by rw [this]; rfl)
  simp only [tokenM, h39, f3, f4, f2, Bool.false_eq_true, if_false, if_true, plain3, hrow, plainM, glued_end, List.take_length, hnum]
  rw [Int.toNat_of_nonneg h0]
/-! ### Names, words, signs -/
theorem small_of_first {c : UInt8} (h : firstB c = true) : greatB c = false ∧ digitB c = false ∧ blankB c = false ∧ ((c.toNat : Int) == 39) = false ∧ c ≠ 45 := by
  simp only [firstB, greatB, digitB, blankB, Bool.or_eq_true, Bool.and_eq_true, decide_eq_true_eq, beq_iff_eq] at h
  refine ⟨?_, ?_, ?_, ?_, ?_⟩
  · simp only [greatB, Bool.and_eq_false_iff, decide_eq_false_iff_not]; omega
  · simp only [digitB, Bool.and_eq_false_iff, decide_eq_false_iff_not]; omega
  · simp only [blankB, Bool.or_eq_false_iff, beq_eq_false_iff_ne]; omega
  · rw [beq_eq_false_iff_ne]; omega
  · rintro rfl
    revert h
    decide
theorem token_name {s : Str} (h : nameB s = true) : tokenM s = ⟨⟨1, s, 0, 0⟩, s.length, 0⟩ := by
  cases s with
  | nil => cases h
  | cons c r =>
    simp only [nameB, Bool.and_eq_true, decide_eq_true_eq, beq_iff_eq] at h
    obtain ⟨⟨h1, h2⟩, h3⟩ := h
    obtain ⟨g1, g2, g3, g4, _⟩ := small_of_first h2
    have h16 : ¬ (((c :: r).length : Nat) : Int) > 16 := by omega
    simp only [tokenM, g4, h2, Bool.false_eq_true, if_false, if_true, plain3, h3, plainM, glued_end, List.take_length, g1, if_neg h16]
set_option maxRecDepth 100000 in
theorem token_word {s : Str} (h : s ∈ wordsL) : tokenM s = ⟨⟨2, s, 0, 0⟩, s.length, 0⟩ ∧ ∃ c r, s = c :: r ∧ greatB c = true := by
  simp only [wordsL, List.mem_cons, List.not_mem_nil, or_false] at h
  rcases h with rfl | rfl | rfl | rfl | rfl | rfl | rfl | rfl | rfl | rfl | rfl | rfl | rfl | rfl | rfl | rfl | rfl | rfl | rfl | rfl | rfl | rfl | rfl | rfl | rfl | rfl | rfl | rfl | rfl | rfl | rfl | rfl | rfl <;> exact ⟨rfl, _, _, rfl, rfl⟩
theorem token_sign {s : Str} (h : s ∈ signsL) : tokenM s = ⟨⟨5, s, 0, 0⟩, s.length, 0⟩ ∧ ∃ c r, s = c :: r ∧ blankB c = false ∧ (c = 45 → r = []) := by
  simp only [signsL, List.mem_cons, List.not_mem_nil, or_false] at h
  rcases h with rfl | rfl | rfl | rfl | rfl | rfl | rfl | rfl | rfl | rfl | rfl | rfl | rfl | rfl | rfl | rfl <;> exact ⟨rfl, _, _, rfl, rfl, by decide⟩
theorem token_tok {t : Tok} (h : WfT t) : tokenM (tokS t) = ⟨{ t with at_ := 0 }, (tokS t).length, 0⟩ ∧ ∃ c r, tokS t = c :: r ∧ blankB c = false ∧ (c = 45 → r = []) := by
  cases h with
  | name s a h =>
    refine ⟨token_name h, ?_⟩
    cases s with
    | nil => cases h
    | cons c r =>
      simp only [nameB, Bool.and_eq_true] at h
      obtain ⟨_, _, g3, _, g5⟩ := small_of_first h.1.2
      exact ⟨c, r, rfl, g3, fun e => absurd e g5⟩
  | word s a h =>
    obtain ⟨h1, c, r, rfl, h2⟩ := token_word h
    refine ⟨h1, c, r, rfl, ?_, ?_⟩
    · simp only [greatB, blankB, Bool.and_eq_true, decide_eq_true_eq, Bool.or_eq_false_iff, beq_eq_false_iff_ne] at h2 ⊢
      omega
    · intro e
      subst e
      exact absurd h2 (by decide)
  | num n a h0 h =>
    refine ⟨token_num h0 h, ?_⟩
    have hi : tokS ⟨3, [], n, a⟩ = Lib.decDigits n.toNat := by show Lib.itoa n = _; unfold Lib.itoa; rw [if_neg (by omega)]
    obtain ⟨_, r, x, hr, h2⟩ := dec_digits (n.toNat + 1) n.toNat (by omega)
    obtain ⟨_, _, _, _, f5, _, f7⟩ := digit_facts hr
    exact ⟨_, _, hi.trans h2, f5, fun e => absurd e f7⟩
  | text s a h => exact ⟨token_text h, 39, _, rfl, by decide, fun e => absurd e (by decide)⟩
  | sign s a h => exact token_sign h
/-! ### Rows of them -/
def wrM : List Tok → Str
  | [] => []
  | [t] => tokS t
  | t :: u :: l => tokS t ++ 32 :: wrM (u :: l)
theorem blank_tok {t : Tok} (h : WfT t) (r : Str) : blankN (tokS t ++ 32 :: r) = 0 ∧ blankN (tokS t) = 0 := by
  obtain ⟨_, c, x, hx, hb, h45⟩ := token_tok h
  rw [hx]
  have key : ∀ y : Str, (c = 45 → prefB (c :: y) sDash = false) → blankN (c :: y) = 0 := fun y hy => by
    rw [blankN_cons, if_neg (by simp [hb]), if_neg]
    intro hd
    simp only [Bool.and_eq_true, beq_iff_eq] at hd
    have hc : c = 45 := UInt8.toNat_inj.1 (by have := hd.1; show c.toNat = 45; omega)
    rw [hy hc] at hd
    exact absurd hd.2 (by simp)
  refine ⟨key _ fun e => ?_, key _ fun e => ?_⟩
  · rw [h45 e, e]
    show prefB (45 :: 32 :: r) sDash = false
    rw [← Bool.not_eq_true, prefB_iff]
    simp [sDash]
  · rw [h45 e, e]; rfl
theorem blank_wr {t : Tok} (h : WfT t) (l : List Tok) : blankN (wrM (t :: l)) = 0 := by
  cases l with
  | nil => exact (blank_tok h []).2
  | cons u l => exact (blank_tok h _).1
/-- Tokens that say the same, one by one. -/
inductive Eqvs : List Tok → List Tok → Prop
  | nil : Eqvs [] []
  | cons (t u : Tok) (l m : List Tok) (h : u.kind = t.kind ∧ u.text = t.text ∧ u.num = t.num) (hs : Eqvs l m) : Eqvs (t :: l) (u :: m)
theorem lexF_blank (k : Nat) (w : Str) (b : Nat) (acc : List Tok) : lexF (k + 1) (32 :: w) b acc = lexF (k + 1) w (b + 1) acc := by
  have hb : blankN (32 :: w) = 1 + blankN w := by rw [blankN_cons, if_pos (by decide)]
  have hd : ∀ j, (32 :: w).drop (1 + j) = w.drop j := fun j => by rw [Nat.add_comm]; rfl
  unfold lexF
  rw [hb, hd, show b + (1 + blankN w) = b + 1 + blankN w from by omega, show ∀ j, 1 + blankN w + j = 1 + (blankN w + j) from fun j => by omega, hd]
theorem wr_ne {t : Tok} (h : WfT t) (l : List Tok) : wrM (t :: l) ≠ [] := by
  obtain ⟨_, c, x, hx, _⟩ := token_tok h
  cases l with
  | nil => simp only [wrM, hx]; simp
  | cons u l => simp only [wrM, hx]; simp
theorem relex : ∀ (l : List Tok) (n a : Nat) (acc : List Tok), (∀ t ∈ l, WfT t) → (wrM l).length < n → ∃ l', lexF n (wrM l) a acc = (acc ++ l' ++ [endT (a + (wrM l).length)], ⟨0, 0⟩) ∧ Eqvs l l'
  | [], 0, a, acc, _, h => by simp at h
  | [], n + 1, a, acc, _, h => ⟨[], by
      unfold lexF
      rw [if_pos (by rfl)]
      simp [wrM, endT]
      rfl, .nil⟩
  | t :: l, 0, a, acc, _, h => by simp at h
  | [t], n + 1, a, acc, hw, h => by
    have ht := hw t (by simp)
    obtain ⟨h1, c, x, hx, _⟩ := token_tok ht
    have hlen : (tokS t).length < n + 1 := h
    have hpos : 1 ≤ (tokS t).length := by rw [hx]; simp
    obtain ⟨l', e1, e2⟩ := relex [] n (a + (tokS t).length) (acc ++ [{ t with at_ := ((a + 0 : Nat) : Int) }]) (by simp) (by simp [wrM]; omega)
    cases e2
    refine ⟨[{ t with at_ := ((a + 0 : Nat) : Int) }], ?_, .cons _ _ _ _ ⟨rfl, rfl, rfl⟩ .nil⟩
    unfold lexF
    show (if (tokS t).drop (blankN (tokS t)) = [] then _ else _) = _
    rw [show blankN (wrM [t]) = 0 from (blank_tok ht []).2, (blank_tok ht []).2, List.drop_zero, if_neg (by rw [hx]; simp)]
    show (if (tokenM (tokS t)).e ≠ 0 then _ else lexF n ((tokS t).drop (0 + (tokenM (tokS t)).n)) (a + 0 + (tokenM (tokS t)).n) (acc ++ [{ (tokenM (tokS t)).t with at_ := ((a + 0 : Nat) : Int) }])) = _
    rw [h1, if_neg (by simp)]
    have hd : (tokS t).drop (0 + (tokS t).length) = wrM [] := by simp [wrM]
    rw [hd]
    have : (⟨t.kind, t.text, t.num, ((a + 0 : Nat) : Int)⟩ : Tok) = { t with at_ := ((a + 0 : Nat) : Int) } := rfl
    simp only [Nat.add_zero] at e1 ⊢
    rw [e1]
    simp [wrM]
  | t :: u :: l, n + 1, a, acc, hw, h => by
    have ht := hw t (by simp)
    obtain ⟨h1, c, x, hx, _⟩ := token_tok ht
    have hlen : (tokS t).length + ((wrM (u :: l)).length + 1) < n + 1 := by simpa [wrM] using h
    have hpos : 1 ≤ (tokS t).length := by rw [hx]; simp
    obtain ⟨l', e1, e2⟩ := relex (u :: l) n (a + (tokS t).length + 1) (acc ++ [{ t with at_ := ((a + 0 : Nat) : Int) }]) (fun y hy => hw y (by simp [hy])) (by omega)
    refine ⟨{ t with at_ := ((a + 0 : Nat) : Int) } :: l', ?_, .cons _ _ _ _ ⟨rfl, rfl, rfl⟩ e2⟩
    have htk : tokenM (tokS t ++ 32 :: wrM (u :: l)) = ⟨{ t with at_ := 0 }, (tokS t).length, 0⟩ := by
      rw [tokenM_ext (.inr rfl) _ (by rw [hx]; simp) (by rw [h1]), h1]
    unfold lexF
    show (if (tokS t ++ 32 :: wrM (u :: l)).drop (blankN (tokS t ++ 32 :: wrM (u :: l))) = [] then _ else _) = _
    rw [show blankN (wrM (t :: u :: l)) = 0 from (blank_tok ht _).1, (blank_tok ht _).1, List.drop_zero, if_neg (by rw [hx]; simp)]
    show (if (tokenM (tokS t ++ 32 :: wrM (u :: l))).e ≠ 0 then _ else lexF n ((tokS t ++ 32 :: wrM (u :: l)).drop (0 + (tokenM (tokS t ++ 32 :: wrM (u :: l))).n)) (a + 0 + (tokenM (tokS t ++ 32 :: wrM (u :: l))).n) (acc ++ [{ (tokenM (tokS t ++ 32 :: wrM (u :: l))).t with at_ := ((a + 0 : Nat) : Int) }])) = _
    rw [htk, if_neg (by simp)]
    have hd : (tokS t ++ 32 :: wrM (u :: l)).drop (0 + (tokS t).length) = 32 :: wrM (u :: l) := by simp
    simp only [Nat.add_zero] at e1 ⊢
    rw [hd]
    obtain ⟨k, rfl⟩ : ∃ k, n = k + 1 := ⟨n - 1, by omega⟩
    rw [lexF_blank, e1]
    have hl : (wrM (t :: u :: l)).length = (tokS t).length + ((wrM (u :: l)).length + 1) := by simp [wrM]
    rw [hl, show a + (tokS t).length + 1 + (wrM (u :: l)).length = a + ((tokS t).length + ((wrM (u :: l)).length + 1)) from by omega]
    simp only [List.append_assoc, List.cons_append, List.nil_append]
/-! ### What was read may be written -/
theorem idxF_mem : ∀ {ls : List Str} {x : Str}, 0 ≤ idxF ls x → x ∈ ls
  | [], x, h => by simp [idxF] at h
  | l :: ls, x, h => by
    unfold idxF at h
    split at h
    · rename_i e; simp [e]
    · split at h
      · omega
      · exact List.mem_cons_of_mem _ (idxF_mem (by omega))
theorem mem_while {p : UInt8 → Bool} : ∀ {s : Str} {c : UInt8}, c ∈ s.takeWhile p → p c = true
  | [], c, h => by simp at h
  | x :: s, c, h => by
    rw [List.takeWhile_cons] at h
    split at h
    · rename_i hx
      rcases List.mem_cons.1 h with rfl | h
      · exact hx
      · exact mem_while h
    · simp at h
theorem take_row (p : UInt8 → Bool) : ∀ s : Str, s.take (rowN p s) = s.takeWhile p
  | [] => rfl
  | c :: s => by
    have ih := take_row p s
    simp only [rowN, List.takeWhile_cons] at ih ⊢
    cases p c
    · rfl
    · simp [ih]
theorem digit_bound {c : UInt8} (h : digitB c = true) : 0 ≤ dgI c ∧ dgI c ≤ 9 := by
  simp only [digitB, Bool.and_eq_true, decide_eq_true_eq] at h
  have h1 : IntKind.u8.wrap ((c.toNat : Int) - 48) = (c.toNat : Int) - 48 := by
    simp only [IntKind.wrap, IntKind.bits, IntKind.signed]
    simp
    omega
  simp only [dgI, h1]
  rw [i64_id (by omega) (by omega)]
  omega
theorem numF_bound : ∀ (xs : Str) (n : Int), (∀ c ∈ xs, digitB c = true) → 0 ≤ n → n ≤ 9223372036854775807 → (numF n xs).2 = 0 → 0 ≤ (numF n xs).1 ∧ (numF n xs).1 ≤ 9223372036854775807
  | [], n, _, h0, h1, _ => ⟨h0, h1⟩
  | c :: xs, n, hd, h0, h1, h => by
    obtain ⟨d0, d9⟩ := digit_bound (hd c (by simp))
    simp only [numF] at h ⊢
    split at h
    · exact absurd h (by decide)
    · rename_i hb
      rw [if_neg hb]
      have hb' : ¬ n > 922337203685477580 ∧ (n = 922337203685477580 → ¬ dgI c > 7) := by
        simp only [numBad, Bool.or_eq_true, Bool.and_eq_true, decide_eq_true_eq, beq_iff_eq] at hb
        exact ⟨fun e => hb (.inl e), fun e e2 => hb (.inr ⟨e, e2⟩)⟩
      have hs : numStep n c = 10 * n + dgI c := by
        unfold numStep
        rw [i64_id (n := 10 * n) (by omega) (by omega), i64_id (by omega) (by omega)]
      exact numF_bound xs _ (fun y hy => hd y (by simp [hy])) (by rw [hs]; omega) (by rw [hs]; omega) h
theorem quoteF_wf : ∀ (m : Nat) (rest out : Str) (a : Nat), (quoteF m rest out a).e = 0 → ∃ x : Str, (quoteF m rest out a).t = ⟨4, x, 0, 0⟩ ∧ x.length ≤ 40
  | 0, rest, out, a, h => by simp [quoteF] at h
  | m + 1, rest, out, a, h => by
    unfold quoteF at h ⊢
    split at h
    · simp at h
    · rename_i h1
      rw [if_neg h1]
      simp only at h ⊢
      split
      · rename_i h2
        rw [if_pos h2] at h
        exact quoteF_wf m _ _ _ h
      · rename_i h2
        rw [if_neg h2] at h
        split
        · rename_i h3
          rw [if_pos h3] at h
          simp at h
        · rename_i h3
          exact ⟨_, rfl, by omega⟩
theorem signF_wf : ∀ (l : List Str) (s : Str), (signF l s).e = 0 → ∃ x ∈ l, (signF l s).t = ⟨5, x, 0, 0⟩
  | [], s, h => by simp [signF] at h
  | x :: l, s, h => by
    unfold signF at h ⊢
    split
    · exact ⟨x, by simp, rfl⟩
    · rename_i hp
      rw [if_neg hp] at h
      obtain ⟨y, hy, e⟩ := signF_wf l s h
      exact ⟨y, by simp [hy], e⟩
theorem tokenM_wf {s : Str} (h : (tokenM s).e = 0) (a : Int) : WfT { (tokenM s).t with at_ := a } := by
  cases s with
  | nil => simp [tokenM] at h
  | cons c r =>
    simp only [tokenM] at h ⊢
    split
    · rename_i h1
      rw [if_pos h1] at h
      obtain ⟨x, e, hx⟩ := quoteF_wf _ _ _ _ h
      show WfT { (quotedM (c :: r)).t with at_ := a }
      have : (quotedM (c :: r)).t = ⟨4, x, 0, 0⟩ := e
      rw [this]
      exact .text x a hx
    · rename_i h1
      rw [if_neg h1] at h
      split
      · rename_i h2
        rw [if_pos h2] at h
        obtain ⟨g1, _⟩ := small_of_first h2
        simp only [plain3, plainM] at h ⊢
        split at h
        · simp at h
        · rename_i h3
          simp only [g1, Bool.false_eq_true, if_false, h2, if_true] at h
          rw [if_neg h3]
          simp only [g1, Bool.false_eq_true, if_false, h2, if_true]
          rw [take_row]
          have h16 : ¬ (rowN smallB (c :: r) : Int) > 16 := by
            intro e
            rw [if_pos e] at h
            exact absurd h (by decide)
          refine .name _ a ?_
          have hall : ∀ d ∈ (c :: r).takeWhile smallB, smallB d = true := fun d hd => mem_while hd
          have hrow := rowN_all hall
          have hl : ((c :: r).takeWhile smallB).length ≤ 16 := by
            have : ((c :: r).takeWhile smallB).length = rowN smallB (c :: r) := rfl
            omega
          have hsm : smallB c = true := by simp [smallB, h2]
          rw [List.takeWhile_cons, hsm, if_pos rfl] at hrow hl ⊢
          simp only [nameB, h2, hrow, Bool.and_true, Bool.and_eq_true, decide_eq_true_eq, beq_self_eq_true]
          exact hl
      · rename_i h2
        rw [if_neg h2] at h
        split
        · rename_i h3
          rw [if_pos h3] at h
          simp only [plain3, plainM] at h ⊢
          split at h
          · simp at h
          · rename_i h4
            simp only [h3, if_true] at h
            rw [if_neg h4]
            simp only [h3, if_true]
            refine .word _ a (idxF_mem ?_)
            by_cases hi : 0 ≤ idxF wordsL ((c :: r).take (rowN greatB (c :: r)))
            · exact hi
            · rw [if_neg hi] at h
              exact absurd h (by decide)
        · rename_i h3
          rw [if_neg h3] at h
          split
          · rename_i h4
            rw [if_pos h4] at h
            have g2 : firstB c = false := by simpa using h2
            have g3 : greatB c = false := by simpa using h3
            simp only [plain3, plainM] at h ⊢
            split at h
            · simp at h
            · rename_i h5
              simp only [g3, g2, Bool.false_eq_true, if_false] at h
              rw [if_neg h5]
              simp only [g3, g2, Bool.false_eq_true, if_false]
              rw [take_row] at h ⊢
              obtain ⟨b1, b2⟩ := numF_bound _ 0 (fun d hd => mem_while hd) (by omega) (by omega) h
              exact .num _ a b1 b2
          · rename_i h4
            rw [if_neg h4] at h
            obtain ⟨x, hx, e⟩ := signF_wf _ _ h
            rw [e]
            exact .sign x a hx
theorem lexF_wf : ∀ (n : Nat) (rest : Str) (a : Nat) (acc : List Tok), rest.length < n → (lexF n rest a acc).2.c = 0 → (∀ x ∈ acc, WfT x) → ∃ pre, lexF n rest a acc = (pre ++ [endT (a + rest.length)], ⟨0, 0⟩) ∧ ∀ x ∈ pre, WfT x
  | 0, rest, a, acc, h, _, _ => by omega
  | n + 1, rest, a, acc, h, hc, hacc => by
    have hbl := blankN_le rest
    unfold lexF at hc ⊢
    split at hc
    · rename_i h1
      rw [if_pos h1]
      have hk : blankN rest = rest.length := by
        have := congrArg List.length h1
        simp at this
        omega
      exact ⟨acc, by rw [hk]; rfl, hacc⟩
    · rename_i h1
      rw [if_neg h1]
      split at hc
      · rename_i h2; exact absurd hc h2
      · rename_i h2
        rw [if_neg h2]
        have h2' : (tokenM (rest.drop (blankN rest))).e = 0 := by simpa using h2
        have hle := tokenM_le h1 h2'
        simp only [List.length_drop] at hle
        obtain ⟨pre, e1, e2⟩ := lexF_wf n _ _ _ (by simp only [List.length_drop]; omega) hc (by
          intro x hx
          rcases List.mem_append.1 hx with hx | hx
          · exact hacc x hx
          · simp only [List.mem_singleton] at hx
            subst hx
            exact tokenM_wf h2' _)
        refine ⟨pre, ?_, e2⟩
        rw [e1]
        congr 4
        simp only [List.length_drop]
        omega
end Go.Proofs.YtpepmfhemjeocaaGreatDoor
end
