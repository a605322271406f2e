/-
  The card of ParserRecovery is proved.
-/
import Derived.Test.YtbecjgckobhmpaaGreatDoorRE12
namespace Go.Proofs.YtbecjgckobhmpaaGreatDoor
open Go Go.AM Go.Proofs
set_option maxRecDepth 100000
theorem goes11:false = Rows.parserRecoveryRow.goesBy Tryz.prog:=by kernel_rfl
theorem named11:Tryz.prog.funcNamed Rows.parserRecoveryRow.func = some 11:=by kernel_rfl
theorem wf11:Rows.parserRecoveryRow.wfByText (OpenSpec.ofChange Rows.parserRecoverySpec) = true:=by kernel_rfl
theorem noSt11_9:Tryz.prog.wantsStandIn 9 = false:=by kernel_rfl
theorem noSt11_33:Tryz.prog.wantsStandIn 33 = false:=by kernel_rfl
theorem parserRecovery_said:Rows.ParserRecoverySaid:=holds11 law11
theorem hl11:∀ f fn,Tryz.pinned.checked.prog.funcNamed Rows.parserRecoveryRow.func = some f→Tryz.pinned.checked.prog.funcs[f]? = some fn →
  true = Tryz.pinned.checked.prog.looks []∧∀ (j:Nat) t,fn.params[j]? = some t→Tryz.pinned.checked.prog.wantsStandIn t = false:=fun f fn hf hfn=>by
 obtain rfl:f = 11:=Option.some.inj (named11.symm.trans hf) |>.symm
 obtain rfl:fn = Tryz.f11:=(Option.some.inj (Tryz.func11.symm.trans hfn)).symm
 refine ⟨looks_ok,fun j t ht=>?_⟩
 rw [Tryz.params11] at ht
 have h3:t = 9∨t = 33:=by
  rcases j with _ | _ | j
  ·exact .inl (by simpa using ht.symm)
  ·exact .inr (by simpa using ht.symm)
  ·simp at ht
 rcases h3 with rfl | rfl
 ·exact noSt11_9
 ·exact noSt11_33
theorem parserRecovery_card:Rows.ParserRecoveryCardSaid :=
 Claim7.holds_tied_plain_at .later [] [.data, .data, .data, .sentinel, .sentinel, .data] true (true, "2c71bd9c32cec8dbcba7c163806e698ca6c65506520b8081d9b2cc6a0913ebf0") true
  parserRecovery_said (fun _ h=>by cases h) wf11 (fun _ h=>by cases h) parserRecovery_row_tie rfl ⟨rfl,rfl⟩ harness_ok rfl hl11 goes11
#print axioms parserRecovery_card
end Go.Proofs.YtbecjgckobhmpaaGreatDoor
