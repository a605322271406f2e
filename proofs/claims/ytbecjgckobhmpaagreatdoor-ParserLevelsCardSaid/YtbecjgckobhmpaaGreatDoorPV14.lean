/-
  The card of ParserLevels is proved: the 338 groups of two operators, each run by the kernel.
-/
import Derived.Test.YtbecjgckobhmpaaGreatDoorPV13
namespace Go.Proofs.YtbecjgckobhmpaaGreatDoor
open Go Go.AM Go.Proofs
set_option maxRecDepth 100000
theorem ops13:(F35 60).map (·.1.length) = some 13:=by kernel_rfl
theorem F8_mod (n:Nat) (h13:(F35 n).map (·.1.length) = some 13) {a a' b b':Int} (c:Bool) (ha:remI (w64 a) 13 = remI (w64 a') 13) (hb:remI (w64 b) 13 = remI (w64 b') 13):F8 n a b c = F8 n a' b' c:=by
 unfold F8
 cases F24 n with
 | none=>rfl
 | some x1 =>
  cases h35:F35 n with
  | none=>rfl
  | some x2 =>
   rw [h35] at h13
   simp only [Option.map_some,Option.some.injEq] at h13
   have h13':((x2.1.length:Nat):Int) = 13:=by omega
   simp only [Option.bind_some]
   rw [h13',ha,hb]
theorem rem13 {a:Nat} (h:a < 256):remI (w64 (a:Int)) 13 = remI (w64 ((a % 13:Nat):Int)) 13:=by
 have h2:∀ a:Nat,a < 256→remI (w64 (a:Int)) 13 = remI (w64 ((a % 13:Nat):Int)) 13:=by decide
 exact h2 a h
theorem runs_all:∀ a,a < 13→runs8 a = true
 | 0,_=>runs8_0
 | 1,_=>runs8_1
 | 2,_=>runs8_2
 | 3,_=>runs8_3
 | 4,_=>runs8_4
 | 5,_=>runs8_5
 | 6,_=>runs8_6
 | 7,_=>runs8_7
 | 8,_=>runs8_8
 | 9,_=>runs8_9
 | 10,_=>runs8_10
 | 11,_=>runs8_11
 | 12,_=>runs8_12
 | _ + 13,h=>by omega
theorem law8 (a b:Nat) (c:Bool) (ha:a < 256) (hb:b < 256):∃ n,F8 n (a:Int) (b:Int) c = some true:=by
 refine ⟨60,?_⟩
 rw [F8_mod 60 ops13 c (rem13 ha) (rem13 hb)]
 have h:=runs_all (a % 13) (by omega)
 unfold runs8 at h
 rw [List.all_eq_true] at h
 have h2:=h (b % 13) (List.mem_range.2 (by omega))
 rw [Bool.and_eq_true] at h2
 cases c
 ·exact isT_eq h2.1
 ·exact isT_eq h2.2
theorem named8:Tryz.prog.funcNamed Rows.parserLevelsRow.func = some 8:=by kernel_rfl
theorem goes8:false = Rows.parserLevelsRow.goesBy Tryz.prog:=by kernel_rfl
theorem wf8:Rows.parserLevelsRow.wfByText (OpenSpec.ofChange Rows.parserLevelsSpec) = true:=by kernel_rfl
theorem parserLevels_said:Rows.ParserLevelsSaid:=holds8 law8
theorem hl8:∀ f fn,Tryz.pinned.checked.prog.funcNamed Rows.parserLevelsRow.func = some f→Tryz.pinned.checked.prog.funcs[f]? = some fn →
  true = Tryz.pinned.checked.prog.looks []∧∀ (j:Nat) t,fn.params[j]? = some t→Tryz.pinned.checked.prog.wantsStandIn t = false:=fun f fn hf hfn=>by
 obtain rfl:f = 8:=Option.some.inj (named8.symm.trans hf) |>.symm
 obtain rfl:fn = Tryz.f8:=(Option.some.inj (Tryz.func8.symm.trans hfn)).symm
 refine ⟨looks_ok,fun j t ht=>?_⟩
 rw [Tryz.params8] at ht
 have h3:t = 5∨t = 4:=by
  rcases j with _ | _ | _ | j
  ·exact .inl (by simpa using ht.symm)
  ·exact .inl (by simpa using ht.symm)
  ·exact .inr (by simpa using ht.symm)
  ·simp at ht
 rcases h3 with rfl | rfl
 ·exact noStand5
 ·exact noStand4
theorem parserLevels_card:Rows.ParserLevelsCardSaid :=
 Claim7.holds_tied_plain_at .later [] [.data, .data, .data, .sentinel, .sentinel, .data] true (true, "2c71bd9c32cec8dbcba7c163806e698ca6c65506520b8081d9b2cc6a0913ebf0") true
  parserLevels_said (fun _ h=>by cases h) wf8 (fun _ h=>by cases h) parserLevels_row_tie rfl ⟨rfl,rfl⟩ harness_ok rfl hl8 goes8
#print axioms parserLevels_card
end Go.Proofs.YtbecjgckobhmpaaGreatDoor
