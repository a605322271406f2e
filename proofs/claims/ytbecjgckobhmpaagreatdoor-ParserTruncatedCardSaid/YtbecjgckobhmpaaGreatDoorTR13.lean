/-
  The card of ParserTruncated is proved.
-/
import Derived.Test.YtbecjgckobhmpaaGreatDoorTR12
namespace Go.Proofs.YtbecjgckobhmpaaGreatDoor
open Go Go.AM Go.Proofs
set_option maxRecDepth 100000
theorem goes12:false = Rows.parserTruncatedRow.goesBy Tryz.prog:=by kernel_rfl
theorem named12:Tryz.prog.funcNamed Rows.parserTruncatedRow.func = some 12:=by kernel_rfl
theorem wf12:Rows.parserTruncatedRow.wfByText (OpenSpec.ofChange Rows.parserTruncatedSpec) = true:=by kernel_rfl
theorem noSt12_9:Tryz.prog.wantsStandIn 9 = false:=by kernel_rfl
theorem noSt12_33:Tryz.prog.wantsStandIn 33 = false:=by kernel_rfl
theorem parserTruncated_said:Rows.ParserTruncatedSaid:=holds12 law12
theorem hl12:∀ f fn,Tryz.pinned.checked.prog.funcNamed Rows.parserTruncatedRow.func = some f→Tryz.pinned.checked.prog.funcs[f]? = some fn →
  true = Tryz.pinned.checked.prog.looks []∧∀ (j:Nat) t,fn.params[j]? = some t→Tryz.pinned.checked.prog.wantsStandIn t = false:=fun f fn hf hfn=>by
 obtain rfl:f = 12:=Option.some.inj (named12.symm.trans hf) |>.symm
 obtain rfl:fn = Tryz.f12:=(Option.some.inj (Tryz.func12.symm.trans hfn)).symm
 refine ⟨looks_ok,fun j t ht=>?_⟩
 rw [Tryz.params12] at ht
 have h3:t = 9∨t = 33:=by
  rcases j with _ | _ | j
  ·exact .inl (by simpa using ht.symm)
  ·exact .inr (by simpa using ht.symm)
  ·simp at ht
 rcases h3 with rfl | rfl
 ·exact noSt12_9
 ·exact noSt12_33
theorem parserTruncated_card:Rows.ParserTruncatedCardSaid :=
 Claim7.holds_tied_plain_at .later [] [.data, .data, .data, .sentinel, .sentinel, .data] true (true, "2c71bd9c32cec8dbcba7c163806e698ca6c65506520b8081d9b2cc6a0913ebf0") true
  parserTruncated_said (fun _ h=>by cases h) wf12 (fun _ h=>by cases h) parserTruncated_row_tie rfl ⟨rfl,rfl⟩ harness_ok rfl hl12 goes12
#print axioms parserTruncated_card
end Go.Proofs.YtbecjgckobhmpaaGreatDoor
