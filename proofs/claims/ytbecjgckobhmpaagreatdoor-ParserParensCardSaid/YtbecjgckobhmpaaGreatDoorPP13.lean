/-
  The card of ParserParens is proved.
-/
import Derived.Test.YtbecjgckobhmpaaGreatDoorPP12
namespace Go.Proofs.YtbecjgckobhmpaaGreatDoor
open Go Go.AM Go.Proofs
set_option maxRecDepth 100000
theorem goes7:false = Rows.parserParensRow.goesBy Tryz.prog:=by kernel_rfl
theorem named7:Tryz.prog.funcNamed Rows.parserParensRow.func = some 7:=by kernel_rfl
theorem wf7:Rows.parserParensRow.wfByText (OpenSpec.ofChange Rows.parserParensSpec) = true:=by kernel_rfl
theorem noSt7_24:Tryz.prog.wantsStandIn 24 = false:=by kernel_rfl
theorem parserParens_said:Rows.ParserParensSaid:=holds7 law7
theorem hl7:∀ f fn,Tryz.pinned.checked.prog.funcNamed Rows.parserParensRow.func = some f→Tryz.pinned.checked.prog.funcs[f]? = some fn →
  true = Tryz.pinned.checked.prog.looks []∧∀ (j:Nat) t,fn.params[j]? = some t→Tryz.pinned.checked.prog.wantsStandIn t = false:=fun f fn hf hfn=>by
 obtain rfl:f = 7:=Option.some.inj (named7.symm.trans hf) |>.symm
 obtain rfl:fn = Tryz.f7:=(Option.some.inj (Tryz.func7.symm.trans hfn)).symm
 refine ⟨looks_ok,fun j t ht=>?_⟩
 rw [Tryz.params7] at ht
 have h3:t = 24:=by
  rcases j with _ | j
  ·simpa using ht.symm
  ·simp at ht
 rw [h3]
 exact noSt7_24
theorem parserParens_card:Rows.ParserParensCardSaid :=
 Claim7.holds_tied_plain_at .later [] [.data, .data, .data, .sentinel, .sentinel, .data] true (true, "2c71bd9c32cec8dbcba7c163806e698ca6c65506520b8081d9b2cc6a0913ebf0") true
  parserParens_said (fun _ h=>by cases h) wf7 (fun _ h=>by cases h) parserParens_row_tie rfl ⟨rfl,rfl⟩ harness_ok rfl hl7 goes7
#print axioms parserParens_card
end Go.Proofs.YtbecjgckobhmpaaGreatDoor
