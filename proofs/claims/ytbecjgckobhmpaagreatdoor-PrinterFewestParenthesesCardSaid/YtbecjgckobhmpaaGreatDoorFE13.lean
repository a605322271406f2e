/-
  The card of PrinterFewestParentheses is proved.
-/
import Derived.Test.YtbecjgckobhmpaaGreatDoorFE12
namespace Go.Proofs.YtbecjgckobhmpaaGreatDoor
open Go Go.AM Go.Proofs
set_option maxRecDepth 100000
theorem goes14:false = Rows.printerFewestParenthesesRow.goesBy Tryz.prog:=by kernel_rfl
theorem named14:Tryz.prog.funcNamed Rows.printerFewestParenthesesRow.func = some 14:=by kernel_rfl
theorem wf14:Rows.printerFewestParenthesesRow.wfByText (OpenSpec.ofChange Rows.printerFewestParenthesesSpec) = true:=by kernel_rfl
theorem noSt14_5:Tryz.prog.wantsStandIn 5 = false:=by kernel_rfl
theorem noSt14_24:Tryz.prog.wantsStandIn 24 = false:=by kernel_rfl
theorem printerFewestParentheses_said:Rows.PrinterFewestParenthesesSaid:=holds14 law14
theorem hl14:∀ f fn,Tryz.pinned.checked.prog.funcNamed Rows.printerFewestParenthesesRow.func = some f→Tryz.pinned.checked.prog.funcs[f]? = some fn →
  true = Tryz.pinned.checked.prog.looks []∧∀ (j:Nat) t,fn.params[j]? = some t→Tryz.pinned.checked.prog.wantsStandIn t = false:=fun f fn hf hfn=>by
 obtain rfl:f = 14:=Option.some.inj (named14.symm.trans hf) |>.symm
 obtain rfl:fn = Tryz.f14:=(Option.some.inj (Tryz.func14.symm.trans hfn)).symm
 refine ⟨looks_ok,fun j t ht=>?_⟩
 rw [Tryz.params14] at ht
 have h3:t = 24∨t = 5:=by
  rcases j with _ | _ | j
  ·exact .inl (by simpa using ht.symm)
  ·exact .inr (by simpa using ht.symm)
  ·simp at ht
 rcases h3 with rfl | rfl
 ·exact noSt14_24
 ·exact noSt14_5
theorem printerFewestParentheses_card:Rows.PrinterFewestParenthesesCardSaid :=
 Claim7.holds_tied_plain_at .later [] [.data, .data, .data, .sentinel, .sentinel, .data, .data] true (true, "2c71bd9c32cec8dbcba7c163806e698ca6c65506520b8081d9b2cc6a0913ebf0") true
  printerFewestParentheses_said (fun _ h=>by cases h) wf14 (fun _ h=>by cases h) printerFewestParentheses_row_tie rfl ⟨rfl,rfl⟩ harness_ok rfl hl14 goes14
#print axioms printerFewestParentheses_card
end Go.Proofs.YtbecjgckobhmpaaGreatDoor
