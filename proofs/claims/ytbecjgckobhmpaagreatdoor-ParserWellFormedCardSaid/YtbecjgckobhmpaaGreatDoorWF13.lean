/-
  The card of ParserWellFormed is proved.
-/
import Derived.Test.YtbecjgckobhmpaaGreatDoorWF12
namespace Go.Proofs.YtbecjgckobhmpaaGreatDoor
open Go Go.AM Go.Proofs
set_option maxRecDepth 100000
theorem goes6:false = Rows.parserWellFormedRow.goesBy Tryz.prog:=by kernel_rfl
theorem named6:Tryz.prog.funcNamed Rows.parserWellFormedRow.func = some 6:=by kernel_rfl
theorem wf6:Rows.parserWellFormedRow.wfByText (OpenSpec.ofChange Rows.parserWellFormedSpec) = true:=by kernel_rfl
theorem noSt6_9:Tryz.prog.wantsStandIn 9 = false:=by kernel_rfl
theorem parserWellFormed_said:Rows.ParserWellFormedSaid:=holds6 law6
theorem hl6:∀ f fn,Tryz.pinned.checked.prog.funcNamed Rows.parserWellFormedRow.func = some f→Tryz.pinned.checked.prog.funcs[f]? = some fn →
  true = Tryz.pinned.checked.prog.looks []∧∀ (j:Nat) t,fn.params[j]? = some t→Tryz.pinned.checked.prog.wantsStandIn t = false:=fun f fn hf hfn=>by
 obtain rfl:f = 6:=Option.some.inj (named6.symm.trans hf) |>.symm
 obtain rfl:fn = Tryz.f6:=(Option.some.inj (Tryz.func6.symm.trans hfn)).symm
 refine ⟨looks_ok,fun j t ht=>?_⟩
 rw [Tryz.params6] at ht
 have h3:t = 9∨t = 9:=by
  rcases j with _ | _ | j
  ·exact .inl (by simpa using ht.symm)
  ·exact .inr (by simpa using ht.symm)
  ·simp at ht
 rcases h3 with rfl | rfl
 ·exact noSt6_9
 ·exact noSt6_9
theorem parserWellFormed_card:Rows.ParserWellFormedCardSaid :=
 Claim7.holds_tied_plain_at .later [] [.data, .data, .data, .sentinel, .sentinel, .data] true (true, "2c71bd9c32cec8dbcba7c163806e698ca6c65506520b8081d9b2cc6a0913ebf0") true
  parserWellFormed_said (fun _ h=>by cases h) wf6 (fun _ h=>by cases h) parserWellFormed_row_tie rfl ⟨rfl,rfl⟩ harness_ok rfl hl6 goes6
#print axioms parserWellFormed_card
end Go.Proofs.YtbecjgckobhmpaaGreatDoor
