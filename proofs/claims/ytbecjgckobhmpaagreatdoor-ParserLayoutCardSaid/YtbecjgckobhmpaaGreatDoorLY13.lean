/-
  The card of ParserLayout is proved.
-/
import Derived.Test.YtbecjgckobhmpaaGreatDoorLY12
namespace Go.Proofs.YtbecjgckobhmpaaGreatDoor
open Go Go.AM Go.Proofs
set_option maxRecDepth 100000
theorem goes9:false = Rows.parserLayoutRow.goesBy Tryz.prog:=by kernel_rfl
theorem named9:Tryz.prog.funcNamed Rows.parserLayoutRow.func = some 9:=by kernel_rfl
theorem wf9:Rows.parserLayoutRow.wfByText (OpenSpec.ofChange Rows.parserLayoutSpec) = true:=by kernel_rfl
theorem noSt9_9:Tryz.prog.wantsStandIn 9 = false:=by kernel_rfl
theorem noSt9_55:Tryz.prog.wantsStandIn 55 = false:=by kernel_rfl
theorem parserLayout_said:Rows.ParserLayoutSaid:=holds9 law9
theorem hl9:∀ f fn,Tryz.pinned.checked.prog.funcNamed Rows.parserLayoutRow.func = some f→Tryz.pinned.checked.prog.funcs[f]? = some fn →
  true = Tryz.pinned.checked.prog.looks []∧∀ (j:Nat) t,fn.params[j]? = some t→Tryz.pinned.checked.prog.wantsStandIn t = false:=fun f fn hf hfn=>by
 obtain rfl:f = 9:=Option.some.inj (named9.symm.trans hf) |>.symm
 obtain rfl:fn = Tryz.f9:=(Option.some.inj (Tryz.func9.symm.trans hfn)).symm
 refine ⟨looks_ok,fun j t ht=>?_⟩
 rw [Tryz.params9] at ht
 have h3:t = 9∨t = 55:=by
  rcases j with _ | _ | j
  ·exact .inl (by simpa using ht.symm)
  ·exact .inr (by simpa using ht.symm)
  ·simp at ht
 rcases h3 with rfl | rfl
 ·exact noSt9_9
 ·exact noSt9_55
theorem parserLayout_card:Rows.ParserLayoutCardSaid :=
 Claim7.holds_tied_plain_at .later [] [.data, .data, .data, .sentinel, .sentinel, .data] true (true, "2c71bd9c32cec8dbcba7c163806e698ca6c65506520b8081d9b2cc6a0913ebf0") true
  parserLayout_said (fun _ h=>by cases h) wf9 (fun _ h=>by cases h) parserLayout_row_tie rfl ⟨rfl,rfl⟩ harness_ok rfl hl9 goes9
#print axioms parserLayout_card
end Go.Proofs.YtbecjgckobhmpaaGreatDoor
