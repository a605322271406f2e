/-
  The card of ParserLocality is proved.
-/
import Derived.Test.YtbecjgckobhmpaaGreatDoorLO11
namespace Go.Proofs.YtbecjgckobhmpaaGreatDoor
open Go Go.AM Go.Proofs
set_option maxRecDepth 100000
theorem goes13:false = Rows.parserLocalityRow.goesBy Tryz.prog:=by kernel_rfl
theorem named13:Tryz.prog.funcNamed Rows.parserLocalityRow.func = some 13:=by kernel_rfl
theorem wf13:Rows.parserLocalityRow.wfByText (OpenSpec.ofChange Rows.parserLocalitySpec) = true:=by kernel_rfl
theorem noSt13_9:Tryz.prog.wantsStandIn 9 = false:=by kernel_rfl
theorem parserLocality_said:Rows.ParserLocalitySaid:=holds13 law13
theorem hl13:∀ f fn,Tryz.pinned.checked.prog.funcNamed Rows.parserLocalityRow.func = some f→Tryz.pinned.checked.prog.funcs[f]? = some fn →
  true = Tryz.pinned.checked.prog.looks []∧∀ (j:Nat) t,fn.params[j]? = some t→Tryz.pinned.checked.prog.wantsStandIn t = false:=fun f fn hf hfn=>by
 obtain rfl:f = 13:=Option.some.inj (named13.symm.trans hf) |>.symm
 obtain rfl:fn = Tryz.f13:=(Option.some.inj (Tryz.func13.symm.trans hfn)).symm
 refine ⟨looks_ok,fun j t ht=>?_⟩
 rw [Tryz.params13] at ht
 have h3:t = 9:=by
  rcases j with _ | j
  ·simpa using ht.symm
  ·simp at ht
 rw [h3]
 exact noSt13_9
theorem parserLocality_card:Rows.ParserLocalityCardSaid :=
 Claim7.holds_tied_plain_at .later [] [.data, .data, .data, .sentinel, .sentinel, .data] true (true, "2c71bd9c32cec8dbcba7c163806e698ca6c65506520b8081d9b2cc6a0913ebf0") true
  parserLocality_said (fun _ h=>by cases h) wf13 (fun _ h=>by cases h) parserLocality_row_tie rfl ⟨rfl,rfl⟩ harness_ok rfl hl13 goes13
#print axioms parserLocality_card
end Go.Proofs.YtbecjgckobhmpaaGreatDoor
