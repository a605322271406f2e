/-
  The card of ParserConcat is proved.
-/
import Derived.Test.YtbecjgckobhmpaaGreatDoorCO12
namespace Go.Proofs.YtbecjgckobhmpaaGreatDoor
open Go Go.AM Go.Proofs
set_option maxRecDepth 100000
theorem goes10:false = Rows.parserConcatRow.goesBy Tryz.prog:=by kernel_rfl
theorem named10:Tryz.prog.funcNamed Rows.parserConcatRow.func = some 10:=by kernel_rfl
theorem wf10:Rows.parserConcatRow.wfByText (OpenSpec.ofChange Rows.parserConcatSpec) = true:=by kernel_rfl
theorem noSt10_9:Tryz.prog.wantsStandIn 9 = false:=by kernel_rfl
theorem parserConcat_said:Rows.ParserConcatSaid:=holds10 law10
theorem hl10:∀ f fn,Tryz.pinned.checked.prog.funcNamed Rows.parserConcatRow.func = some f→Tryz.pinned.checked.prog.funcs[f]? = some fn →
  true = Tryz.pinned.checked.prog.looks []∧∀ (j:Nat) t,fn.params[j]? = some t→Tryz.pinned.checked.prog.wantsStandIn t = false:=fun f fn hf hfn=>by
 obtain rfl:f = 10:=Option.some.inj (named10.symm.trans hf) |>.symm
 obtain rfl:fn = Tryz.f10:=(Option.some.inj (Tryz.func10.symm.trans hfn)).symm
 refine ⟨looks_ok,fun j t ht=>?_⟩
 rw [Tryz.params10] at ht
 have h3:t = 9∨t = 9:=by
  rcases j with _ | _ | j
  ·exact .inl (by simpa using ht.symm)
  ·exact .inr (by simpa using ht.symm)
  ·simp at ht
 rcases h3 with rfl | rfl
 ·exact noSt10_9
 ·exact noSt10_9
theorem parserConcat_card:Rows.ParserConcatCardSaid :=
 Claim7.holds_tied_plain_at .later [] [.data, .data, .data, .sentinel, .sentinel, .data] true (true, "2c71bd9c32cec8dbcba7c163806e698ca6c65506520b8081d9b2cc6a0913ebf0") true
  parserConcat_said (fun _ h=>by cases h) wf10 (fun _ h=>by cases h) parserConcat_row_tie rfl ⟨rfl,rfl⟩ harness_ok rfl hl10 goes10
#print axioms parserConcat_card
end Go.Proofs.YtbecjgckobhmpaaGreatDoor
