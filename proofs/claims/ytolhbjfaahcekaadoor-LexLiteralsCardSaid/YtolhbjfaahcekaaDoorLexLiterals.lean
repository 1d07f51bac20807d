/- PROVED: 'LexLiterals', the tied card: for every value the law returns true, and leaves its argument as it was. -/
import Derived.Test.YtolhbjfaahcekaaDoorMc
import Derived.Test.YtolhbjfaahcekaaDoorCards
import Derived.Test.YtolhbjfaahcekaaDoorTie
import Derived.SevenTiedAt
set_option linter.unusedVariables false
set_option linter.unusedSimpArgs false
namespace Go.Proofs.YtolhbjfaahcekaaDoor
open Go Go.Proofs Go.RowKit Go.WideShapes Go.ChangeShapes Go.ChangeAt Go.ChangeMaps

theorem val_kind : (match Tryd.prog.underlying 23 with | some (.struct _) => true | _ => false) = true := by kernel_rfl
theorem val_types : Tryd.prog.cellTypes Tryd.prog.depth 23 = some [3, 3, 9] := by kernel_rfl
theorem val_size : Tryd.prog.cellsOf 23 = 3 := by kernel_rfl
theorem open_val {W : World} {base : Nat} {v : Value} (h : Value.okWide Tryd.prog W .any base 23 v) : ∃ x : Vl, (-9223372036854775808 ≤ x.n ∧ x.n ≤ 9223372036854775807) ∧ ∀ G : Gh, Rep G (vPV x) v := by
  obtain ⟨cs, rfl, hs, hc⟩ := okWide_cells h val_kind val_types val_size
  obtain ⟨l⟩ := cs
  match l, hs, hc with
  | [a, b, c], _, hc =>
    obtain ⟨k, rfl, _⟩ := cell_int (hc 0 a _ rfl rfl)
    obtain ⟨n, rfl, h1, h2⟩ := cell_int (hc 1 b _ rfl rfl)
    obtain ⟨s, rfl⟩ := cell_str (hc 2 c _ rfl rfl)
    refine ⟨⟨k, n, s.data.toList⟩, ⟨h1, h2⟩, fun G => ?_⟩
    exact .agg _ _ (by simp [vC, PV.isCell]) (.cons _ _ _ _ (.int _ _) (.cons _ _ _ _ (.int _ _) (.cons _ _ _ _ (.str _) .nil)))
set_option maxRecDepth 100000 in
theorem lexLiterals_lifted (os : Os) (started : os.Started) (H : Type) (enc : TypeId × Value → H) :
    ReturnsInHanded {} Tryd.checked os 3 .any (fun w args => (Rows.lexLiteralsSpec.pre enc Tryd.prog Tryd.f3 [] false w args ∧ laidMetH Tryd.prog laidL w) ∧ sizedMet enc Tryd.prog Tryd.f3 (OpenSpec.ofChange Rows.lexLiteralsSpec) false w args)
      (Rows.lexLiteralsSpec.post enc Tryd.prog Tryd.f3 false true false false) := by
  refine returnsIn_laid (C := Tryd.checked) (X := fun w _ => laidMetH Tryd.prog laidL w) (fun _ _ _ hh h => h.of_heap hh) Tryd.own started (by kernel_rfl) Tryd.func3
    (ChangeSpec.witness_shaped (enc := enc) (C := Tryd.checked) (os := os) (X := fun w _ => laidMetH Tryd.prog laidL w) false (World.laidAll Tryd.prog os laidL) #[.agg #[.int .i64 0, .int .i64 0, .string ⟨#[]⟩]] 8 (World.laidAll_os _ _ _)
      (World.shaped_of_ZipB (by kernel_rfl) (by kernel_rfl)) (by kernel_rfl) (by kernel_rfl) (by kernel_rfl) (witness_met os _)) ?_
  intro W base args ds gs before hval0 hW hs hL
  have hval : ∀ (j : Nat) t v, Tryd.f3.params[j]? = some t → args[j]? = some v → Value.okWide Tryd.prog W .any base t v := hval0
  have hW' := hW
  obtain ⟨p, q, hA0, hV, rfl, hfz, hnd⟩ := hW
  have hA : DataW.TrodAll enc Tryd.prog W 0 (fun _ => true) true Tryd.f3.params.toList args.toList ds p := hA0
  rw [Tryd.params3] at hA hval
  obtain ⟨v0, d0, rfl, rfl, h0⟩ := trodAll_one hA
  obtain ⟨rfl, rfl⟩ := trodVars_none hV
  obtain ⟨x, ⟨x0, x1⟩, hrep⟩ := open_val (hval 0 23 v0 rfl rfl)
  clear hA0 hval0
  simp only [List.append_nil] at hW' hfz hnd
  have hlt : ∀ y ∈ p, y.block < W.heap.size := fun y hy => hW'.lt y hy
  have hcall := (literals_pc x x0 x1).calls ⟨_, Tryd.func3, by kernel_rfl, by kernel_rfl⟩ (w := W) (tabs_of_laid hL hs) (vs := [v0]) (.cons _ _ _ _ (hrep _) .nil)
  refine hcall.mono ?_
  rintro e W' ⟨v, G, rfl, hrp, hb⟩
  cases hrp.bool_inv
  have hargs : ∀ sp : Nat → Bool, (∀ y ∈ p, sp y.block = true) → DataW.TrodAll enc Tryd.prog W' 0 sp true Tryd.f3.params.toList [v0] [d0] p := fun sp hsp => by
    rw [Tryd.params3]
    exact trodAll_mk1 (WideElems.Trod_stays Tryd.laidOut (by kernel_rfl) (of_decide_eq_true (by kernel_rfl)) h0 (fun y hy => hb.same (hlt y hy)) hsp)
  exact ⟨_, rfl, post_of_below (pa := p) (pv := []) hW' (fun _ _ _ => trodAll_mk1 (shut_bool Tryd.underlying4 _)) hargs (fun _ _ => rfl) (List.append_nil p).symm hb
    (ok_one (by kernel_rfl) rfl (okWide_bool_mk Tryd.underlying4 _))⟩
theorem lexLiterals_row : Rows.LexLiteralsSaid :=
  OpenClaim.holds_of_wide 3 Tryd.f3 rfl rfl rfl rfl rfl rfl rfl ⟨rfl, rfl, rfl, rfl, rfl⟩ rfl rfl rfl rfl rfl (by kernel_rfl) Tryd.func3 (by kernel_rfl)
    (of_decide_eq_true (by kernel_rfl)) (by unfold Func.isWrapper; first | (rw [if_pos (by decide +kernel)]; kernel_rfl) | (rw [if_neg (by decide +kernel)]; exact ⟨rfl, rfl⟩))
    (fun os started H enc _ => lexLiterals_lifted os started H enc)
theorem lexLiterals_holds : Rows.LexLiteralsCardSaid :=
  Claim7.holds_tied_plain_at .later [] [.data, .data, .data, .data, .pinned] true Rows.lexLiteralsCard.stood.harness false
    lexLiterals_row (fun _ h => by cases h) (by kernel_rfl) (fun _ h => by cases h) lexLiterals_row_tie rfl ⟨rfl, rfl⟩ (by kernel_rfl) rfl
    (fun f fn hf hfn => by
      obtain rfl : f = 3 := Option.some.inj ((show Tryd.prog.funcNamed "vestry/vestrylaw08.LexLiterals" = some 3 by kernel_rfl).symm.trans hf) |>.symm
      obtain rfl : fn = Tryd.f3 := (Option.some.inj (Tryd.func3.symm.trans hfn)).symm
      exact ⟨by kernel_rfl, fun j t ht => by
        rw [Tryd.params3] at ht
        have hm : t ∈ [23] := by simpa using Array.mem_of_getElem? ht
        have hall : ([23].all fun u => !Tryd.prog.wantsStandIn u) = true := by kernel_rfl
        exact (show Tryd.prog.wantsStandIn t = false by simpa using List.all_eq_true.1 hall t hm)⟩)
    (by kernel_rfl)
end Go.Proofs.YtolhbjfaahcekaaDoor
