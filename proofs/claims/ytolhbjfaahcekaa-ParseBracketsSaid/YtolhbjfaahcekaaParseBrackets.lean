/- PROVED: 'ParseBrackets': for every source the law returns true, and leaves its argument as it was. No condition. -/
import Derived.Test.YtolhbjfaahcekaaMc
import Derived.Test.YtolhbjfaahcekaaMd
set_option linter.unusedVariables false
set_option linter.unusedSimpArgs false
namespace Go.Proofs.Ytolhbjfaahcekaa
open Go Go.Proofs Go.RowKit Go.WideShapes Go.ChangeShapes Go.ChangeAt Go.ChangeMaps

set_option maxRecDepth 100000 in
theorem parseBrackets_lifted (os : Os) (started : os.Started) (H : Type) (enc : TypeId × Value → H) :
    ReturnsInHanded {} Try.checked os 3 .any (Rows.parseBracketsSpec.pre6 enc Try.prog Try.f3 Rows.parseBracketsRow.domain false) (Rows.parseBracketsSpec.post enc Try.prog Try.f3 false true false false) := by
  refine returnsInHanded_of_change (C := Try.checked) Try.own started (by kernel_rfl) Try.func3
    (ChangeSpec.witness6 (enc := enc) (C := Try.checked) false ⟨#[], #[.string ⟨#[]⟩], []⟩ 8 (by kernel_rfl) (by kernel_rfl) (by kernel_rfl) (by kernel_rfl)) ?_
  intro W base args ds gs before hval0 hW hcnd _
  have hval : ∀ (j : Nat) t v, Try.f3.params[j]? = some t → args[j]? = some v → Value.okWide Try.prog W .any base t v := hval0
  have hW' := hW
  obtain ⟨p, q, hA0, hV, rfl, hfz, hnd⟩ := hW
  have hA : DataW.TrodAll enc Try.prog W 0 (fun _ => true) true Try.f3.params.toList args.toList ds p := hA0
  rw [Try.params3] at hA hval
  obtain ⟨v0, d0, rfl, rfl, h0⟩ := trodAll_one hA
  obtain ⟨rfl, rfl⟩ := trodVars_none hV
  obtain ⟨a, rfl, rfl, rfl, wa⟩ := open_string Try.underlying9 (hval 0 9 v0 rfl rfl) h0
  clear hA0 hval0
  simp only [List.append_nil] at hW'
  have hcall := (brackets_pc a.data.toList (brackets_law a.data.toList) (oneM_few _ _)).calls ⟨_, Try.func3, by kernel_rfl, by kernel_rfl⟩ (w := W) (vs := [.string a]) (.cons _ _ _ _ (.str _) .nil)
  refine hcall.mono ?_
  rintro e W' ⟨v, G, rfl, hrep, hb⟩
  cases hrep.bool_inv
  exact ⟨_, rfl, post_of_below (pa := []) (pv := []) hW' (fun _ _ _ => trodAll_mk1 (shut_bool Try.underlying4 _)) (fun sp _ => trodAll_mk1 (shut_string Try.underlying9 wa)) (fun _ _ => rfl) rfl hb
    (ok_one (by kernel_rfl) rfl (okWide_bool_mk Try.underlying4 _))⟩
theorem parseBrackets_holds : Rows.ParseBracketsSaid :=
  OpenClaim.holds_of_wide 3 Try.f3 rfl rfl rfl rfl rfl rfl rfl ⟨rfl, rfl, rfl, rfl, rfl⟩ rfl rfl rfl rfl rfl (by kernel_rfl) Try.func3 (by kernel_rfl)
    (of_decide_eq_true (by kernel_rfl)) (by unfold Func.isWrapper; first | (rw [if_pos (by decide +kernel)]; kernel_rfl) | (rw [if_neg (by decide +kernel)]; exact ⟨rfl, rfl⟩))
    (fun os started H enc _ => parseBrackets_lifted os started H enc)
end Go.Proofs.Ytolhbjfaahcekaa
