/- The statement is proved here: the abstract machine answers true, so the program does. No condition. -/
import Derived.Test.YtmbkkopbpiehdaaA4
import Derived.WalkKit
import Derived.ProofKit
import Derived.OpenShut
import Derived.ShutString
import Derived.ChangeOld
import Derived.Below
import Derived.SizedLaws
set_option linter.unusedSimpArgs false
set_option linter.unusedVariables false
/- The row of FordChecks, from what the abstract machine answers. No condition. -/
namespace AM
open Go Go.Proofs
set_option linter.unusedVariables false
set_option maxRecDepth 100000
theorem dInts {k : Nat} {ds : List D} (h : HasC Try.prog (k + 2) 34 ds) : ∃ l : List Int, ((∀ x ∈ l, -9223372036854775808 ≤ x ∧ x ≤ 9223372036854775807) ∧ l.length ≤ 140737488355327) ∧ ds = [ints l] := by
  obtain ⟨l, h1, h2, h3⟩ := has_sl (f := fun n : Int => [D.int .i64 n]) (ok := fun x => -9223372036854775808 ≤ x ∧ x ≤ 9223372036854775807) Try.underlying34 7 (by kernel_rfl) (fun c hc => by obtain ⟨v, e, hv⟩ := has_i64 Try.underlying3 hc; exact ⟨v, hv, e⟩) h
  exact ⟨l, ⟨h2, h3⟩, h1⟩
theorem dRule {k : Nat} {ds : List D} (h : HasC Try.prog (k + 2) 44 ds) : ∃ r : Rule, ((-9223372036854775808 ≤ r.root ∧ r.root ≤ 9223372036854775807) ∧ r.name.length ≤ 140737488355327) ∧ ds = r.cells := by
  obtain ⟨a, b, rfl, h1, h⟩ := has_cons (has_struct Try.underlying44 h)
  obtain ⟨c, d, rfl, h2, h⟩ := has_cons h
  obtain rfl := has_nil h
  obtain ⟨s, rfl, hs⟩ := has_str Try.underlying9 h1
  obtain ⟨v, rfl, hv⟩ := has_i64 Try.underlying3 h2
  exact ⟨⟨s, v⟩, ⟨hv, hs⟩, rfl⟩
theorem dNode {k : Nat} {ds : List D} (h : HasC Try.prog (k + 4) 57 ds) : ∃ x : Node, x.Ok ∧ ds = x.cells := by
  obtain ⟨a, b, rfl, h1, h⟩ := has_cons (has_struct Try.underlying57 h)
  obtain ⟨c, d, rfl, h2, h⟩ := has_cons h
  obtain ⟨e, f, rfl, h3, h⟩ := has_cons h
  obtain ⟨g, i, rfl, h4, h⟩ := has_cons h
  obtain rfl := has_nil h
  obtain ⟨op, rfl, ho⟩ := has_i64 Try.underlying3 h1
  obtain ⟨ks, ⟨hk, hl⟩, rfl⟩ := dInts h2
  obtain ⟨r, rfl, hr⟩ := has_i64 Try.underlying3 h3
  obtain ⟨s0, s1, s2, s3, rfl, q0, q1, q2, q3⟩ := has_arr4 Try.underlying55 Try.underlying53 h4
  exact ⟨⟨op, ks, r, s0, s1, s2, s3⟩, ⟨ho, hk, hl, hr, q0, q1, q2, q3⟩, rfl⟩
theorem dGram {k : Nat} {ds : List D} (h : HasC Try.prog (k + 6) 25 ds) : ∃ g : Gram, g.Ok ∧ ds = g.cells := by
  obtain ⟨a, b, rfl, h1, h⟩ := has_cons (has_struct Try.underlying25 h)
  obtain ⟨c, d, rfl, h2, h⟩ := has_cons h
  obtain rfl := has_nil h
  obtain ⟨rs, rfl, hr, hrl⟩ := has_sl (f := Rule.cells) Try.underlying22 23 (by kernel_rfl) (fun c hc => dRule hc) h1
  obtain ⟨ns, rfl, hn, hnl⟩ := has_sl (f := Node.cells) Try.underlying23 71 (by kernel_rfl) (fun c hc => dNode hc) h2
  exact ⟨⟨rs, ns⟩, ⟨hr, hn, hrl, hnl⟩, rfl⟩
theorem dStep {k : Nat} {ds : List D} (h : HasC Try.prog (k + 4) 36 ds) : ∃ x : Stp, x.Ok ∧ ds = x.cells := by
  obtain ⟨a, b, rfl, h1, h⟩ := has_cons (has_struct Try.underlying36 h)
  obtain ⟨c, d, rfl, h2, h⟩ := has_cons h
  obtain ⟨e, f, rfl, h3, h⟩ := has_cons h
  obtain ⟨g, i, rfl, h4, h⟩ := has_cons h
  obtain ⟨j, m, rfl, h5, h⟩ := has_cons h
  obtain rfl := has_nil h
  obtain ⟨nd, rfl, hn⟩ := has_i64 Try.underlying3 h1
  obtain ⟨r, rfl⟩ := has_bool Try.underlying4 h2
  obtain ⟨at_, rfl, ha⟩ := has_i64 Try.underlying3 h3
  obtain ⟨en, rfl, he⟩ := has_i64 Try.underlying3 h4
  obtain ⟨ks, ⟨hk, hl⟩, rfl⟩ := dInts h5
  exact ⟨⟨nd, r, at_, en, ks⟩, ⟨hn, ha, he, hl⟩, rfl⟩
theorem dSteps {k : Nat} {ds : List D} (h : HasC Try.prog (k + 6) 26 ds) : ∃ l : List Stp, ((∀ x ∈ l, x.Ok) ∧ l.length ≤ 140737488355327) ∧ ds = [.sl (l.map Stp.cells)] := by
  obtain ⟨l, h1, h2, h3⟩ := has_sl (f := Stp.cells) Try.underlying26 55 (by kernel_rfl) (fun c hc => dStep hc) h
  exact ⟨l, ⟨h2, h3⟩, h1⟩
theorem fordChecks_run (ds : List D) (h : HasArgs Try.prog 8 Try.f3.params.toList ds) : ∃ h', (lim PA).call 0 0 F.law19_FordChecks ds [] = some (.bool true, h') := by
  rw [Try.params3] at h
  obtain ⟨d0, r0, rfl, h0, h⟩ := args_cons h
  obtain ⟨d1, r1, rfl, h1, h⟩ := args_cons h
  obtain ⟨d2, r2, rfl, h2, h⟩ := args_cons h
  obtain ⟨d3, r3, rfl, h3, h⟩ := args_cons h
  obtain ⟨d4, r4, rfl, h4, h⟩ := args_cons h
  obtain rfl := args_nil h
  obtain ⟨c0, rfl, hh0⟩ := arg_struct Try.underlying25 h0
  obtain ⟨g0, gok0, rfl⟩ := dGram hh0
  obtain ⟨x1, rfl, xl1⟩ := arg_str Try.underlying9 h1
  obtain ⟨l2, ⟨lok2, ll2⟩, le2⟩ := dSteps (arg_sl Try.underlying26 h2)
  simp only [List.cons.injEq, and_true] at le2
  subst le2
  obtain ⟨v3, rfl, vr3⟩ := arg_i64 Try.underlying3 h3
  obtain ⟨v4, rfl, vr4⟩ := arg_i64 Try.underlying3 h4
  exact ⟨[], FordChecks_ok gok0 xl1 lok2 ll2 v3 v4⟩
end AM
namespace Go.Proofs.Ytmbkkopbpiehdaa
open AM Go.ChangeShapes Go.WideShapes Go.RowKit
set_option linter.unusedVariables false
set_option maxRecDepth 100000 in
theorem fordChecks_lifted (os : Os) (started : os.Started) (H : Type) (enc : TypeId × Value → H) :
    ReturnsInHanded {} Try.checked os 3 .any (Rows.fordChecksSpec.pre6 enc Try.prog Try.f3 Rows.fordChecksRow.domain false) (Rows.fordChecksSpec.post enc Try.prog Try.f3 false true false false) := by
  refine law_lifted (C := Try.checked) (fn := Try.f3) 8 (by kernel_rfl) (by kernel_rfl) started (by kernel_rfl) Try.func3
    (ChangeSpec.witness6 (enc := enc) (C := Try.checked) false ⟨#[], #[.agg #[.slice none 0 0, .slice none 0 0], .string ByteArray.empty, .slice none 0 0, .int .i64 0, .int .i64 0], []⟩ 12 (by kernel_rfl) (by kernel_rfl) (by kernel_rfl) (by kernel_rfl)) (by kernel_rfl) (by kernel_rfl) rfl (by kernel_rfl) (by kernel_rfl) 4 (by kernel_rfl) Try.underlying4 ?_ links fordChecks_run
  intro ds hd
  have hd : ds.length = 5 := hd
  match ds, hd with
  | [_, _, _, _, _], _ => rfl
theorem fordChecks_over : Rows.fordChecksRow.holds Try.pinned (OpenSpec.ofChange Rows.fordChecksSpec) :=
  OpenClaim.holds_of_wide 3 Try.f3 rfl rfl rfl rfl rfl rfl rfl ⟨rfl, rfl, rfl, rfl, rfl⟩ rfl rfl rfl rfl rfl (by kernel_rfl) Try.func3 (by kernel_rfl)
    (of_decide_eq_true (by kernel_rfl)) (by unfold Func.isWrapper; first | (rw [if_pos (by decide +kernel)]; kernel_rfl) | (rw [if_neg (by decide +kernel)]; exact ⟨rfl, rfl⟩))
    (fun os started H enc _ => fordChecks_lifted os started H enc)
theorem fordChecks_holds : Rows.FordChecksSaid := fordChecks_over
#print axioms fordChecks_holds
end Go.Proofs.Ytmbkkopbpiehdaa
