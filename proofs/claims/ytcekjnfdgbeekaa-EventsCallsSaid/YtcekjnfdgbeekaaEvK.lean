/- The document's example of a queue; a nil queue. -/
import Derived.Test.YtcekjnfdgbeekaaEvJ
namespace Go.Proofs.Ytcekjnfdgbeekaa
open Go.Wf
set_option linter.unusedVariables false
theorem IsFirst.one {E E1 E2 F1 F2 : List Evt} {e f : Evt} (h : IsFirst E E1 e E2) (h' : IsFirst E F1 f F2) : E1 = F1 ∧ e = f ∧ E2 = F2 := by
  have key : ∀ {E1 E2 F1 F2 : List Evt} {e f : Evt}, IsFirst E E1 e E2 → IsFirst E F1 f F2 → ¬ E1.length < F1.length := by
    intro E1 E2 F1 F2 e f h h' hlt
    have h1 : E[E1.length]? = some e := by rw [h.eq]; simp
    have h2 : E[F1.length]? = some f := by rw [h'.eq]; simp
    have m1 : e ∈ F1 := by
      rw [h'.eq, List.getElem?_append_left hlt] at h1
      exact List.mem_of_getElem? h1
    have m2 : f ∈ E2 := by
      rw [h.eq, List.getElem?_append_right (by omega), show F1.length - E1.length = (F1.length - E1.length - 1) + 1 by omega, List.getElem?_cons_succ] at h2
      exact List.mem_of_getElem? h2
    have a := h'.lt e m1
    have b := h.le f m2
    omega
  have hl : E1.length = F1.length := by have := key h h'; have := key h' h; omega
  have he := h.eq.symm.trans h'.eq
  obtain ⟨a, b⟩ := List.append_inj he hl
  injection b with b c
  exact ⟨a, b, c⟩
section
variable {bq : Nat} {A : List Blk} {E : List Evt} {now last k d : Int} {ok : Bool} {p : Prop} {p2 : List Evt → Int → Prop}
theorem nx_some {E1 E2 : List Evt} {e : Evt} (hF : IsFirst E E1 e E2) (h : (ok = false ∧ k = 0 ∧ d = 0 ∧ E = [] ∧ QM bq E now last A) ∨ (ok = true ∧ ∃ E1 e E2, IsFirst E E1 e E2 ∧ k = e.time ∧ d = e.data ∧ QM bq (E1 ++ E2) e.time last A)) : k = e.time ∧ d = e.data ∧ ok = true ∧ QM bq (E1 ++ E2) e.time last A := by
  rcases h with ⟨_, _, _, h, _⟩ | ⟨rfl, F1, f, F2, hF', rfl, rfl, h⟩
  · have := hF.eq; rw [h] at this; simp at this
  · obtain ⟨rfl, rfl, rfl⟩ := hF.one hF'
    exact ⟨rfl, rfl, rfl, h⟩
theorem nx_none (hE : E = []) (h : (ok = false ∧ k = 0 ∧ d = 0 ∧ E = [] ∧ QM bq E now last A) ∨ (ok = true ∧ ∃ E1 e E2, IsFirst E E1 e E2 ∧ k = e.time ∧ d = e.data ∧ QM bq (E1 ++ E2) e.time last A)) : k = 0 ∧ d = 0 ∧ ok = false ∧ QM bq E now last A := by
  rcases h with ⟨rfl, rfl, rfl, _, h⟩ | ⟨rfl, F1, f, F2, hF', _⟩
  · exact ⟨rfl, rfl, rfl, h⟩
  · have := hF'.eq; rw [hE] at this; simp at this
end
set_option maxHeartbeats 4000000 in
theorem awake_any (w : World) : Calls Try.prog 9 #[] w fun e w' => e = .returned (.bool true) ∧ Mod [] w w' := by
  refine Goal.enter (args := []) Try.func9 rfl Try.ntmps9 rfl (St.nil w) ?_
  repeat' (first
    | (refine Goal.loud (o := ⟨some 14, _, _, _, _, _⟩) rfl ?_; apply Loud.callN; exact rfl; exact rfl; exact rfl; exact rfl; exact T.bod_10; exact (fun w H => newQ w); rintro ⟨bq, A1⟩ h1; dsimp only at h1 ⊢)
    | (refine Goal.loud (o := ⟨some 18, _, _, _, _, _⟩) rfl ?_; refine Loud.callE ([]) (addQ h1 5 10 (by decide)) rfl rfl rfl rfl T.bod_11 (fun _ h => h) ?_; intro A2 h2; replace h2 : QM bq [⟨1, 5, 10⟩] 0 1 A2 := h2)
    | (refine Goal.loud (o := ⟨some 20, _, _, _, _, _⟩) rfl ?_; refine Loud.callE ([]) (addQ h2 3 20 (by decide)) rfl rfl rfl rfl T.bod_11 (fun _ h => h) ?_; intro A3 h3; replace h3 : QM bq [⟨1, 5, 10⟩, ⟨2, 3, 20⟩] 0 2 A3 := h3)
    | (refine Goal.loud (o := ⟨some 22, _, _, _, _, _⟩) rfl ?_; refine Loud.callE ([]) (addQ h3 5 30 (by decide)) rfl rfl rfl rfl T.bod_11 (fun _ h => h) ?_; intro A4 h4; replace h4 : QM bq [⟨1, 5, 10⟩, ⟨2, 3, 20⟩, ⟨3, 5, 30⟩] 0 3 A4 := h4)
    | (refine Goal.loud (o := ⟨some 25, _, _, _, _, _⟩) rfl ?_; refine Loud.callE ([]) (nextQ h4) rfl rfl rfl rfl T.bod_12 (fun _ h => h) ?_; rintro ⟨k5, d5, ok5, A5⟩ h5; dsimp only at h5 ⊢; obtain ⟨rfl, rfl, rfl, g5⟩ := nx_some (E1 := [⟨1, 5, 10⟩]) (e := ⟨2, 3, 20⟩) (E2 := [⟨3, 5, 30⟩]) ⟨rfl, by simp, by simp⟩ h5)
    | (refine Goal.loud (o := ⟨some 31, _, _, _, _, _⟩) rfl ?_; refine Loud.callE ([]) (nextQ g5) rfl rfl rfl rfl T.bod_12 (fun _ h => h) ?_; rintro ⟨k6, d6, ok6, A6⟩ h6; dsimp only at h6 ⊢; obtain ⟨rfl, rfl, rfl, g6⟩ := nx_some (E1 := []) (e := ⟨1, 5, 10⟩) (E2 := [⟨3, 5, 30⟩]) ⟨rfl, by simp, by simp⟩ h6)
    | (refine Goal.loud (o := ⟨some 37, _, _, _, _, _⟩) rfl ?_; refine Loud.callE ([]) (addQ g6 4 1 (by decide)) rfl rfl rfl rfl T.bod_11 (fun _ h => h) ?_; intro A7 h7; replace h7 : QM bq [⟨3, 5, 30⟩] 5 3 A7 := h7; rw [show addErr (List.length ([] ++ [(⟨3, 5, 30⟩ : Evt)])) (⟨1, 5, 10⟩ : Evt).time 4 = 7 from by decide])
    | (refine Goal.loud (o := ⟨some 41, _, _, _, _, _⟩) rfl ?_; refine Loud.callE ([]) (cancelQ h7 3) rfl rfl rfl rfl T.bod_14 (fun _ h => h) ?_; intro A8 h8; replace h8 : QM bq [] 5 3 A8 := h8)
    | (refine Goal.loud (o := ⟨some 44, _, _, _, _, _⟩) rfl ?_; refine Loud.callE ([]) (nextQ h8) rfl rfl rfl rfl T.bod_12 (fun _ h => h) ?_; rintro ⟨k9, d9, ok9, A9⟩ h9; dsimp only at h9 ⊢; obtain ⟨rfl, rfl, rfl, g9⟩ := nx_none rfl h9)
    | (apply G.move; exact rfl; exact rfl)
    | (apply G.assign; exact rfl; exact rfl)
    | refine Goal.seq (fun _ _ => ?_)
    | refine Goal.next (by assumption) ?_
    | refine Goal.lnil ?_
    | refine Goal.region ?_
    | refine Goal.skip ?_
    | refine Goal.block ?_
    | refine Goal.exit ?_
    | refine Goal.ret ?_
    | refine Goal.then_exit ?_
    | refine Goal.then_ret ?_
    | refine Goal.inBlock_exit ?_
    | refine Goal.inBlock_normal ?_
    | refine Goal.inBlock_ret ?_
    | refine Goal.inBlock_other rfl ?_
    | (apply Goal.condT; exact rfl)
    | (apply Goal.condF; exact rfl)
    | (refine Goal.condD rfl (fun hc => ?_) (fun hc => ?_) <;> first | (exfalso; omega) | contradiction | skip)
    | refine Goal.condB rfl (fun hc => ?_) (fun hc => ?_)
    | refine Goal.guardT rfl rfl ?_
    | refine Goal.guardF rfl rfl rfl rfl ?_
    | refine Goal.guardU rfl rfl rfl ?_
    | (refine Goal.guardD rfl rfl (fun hc => ?_) (fun hc => ?_) <;> first | (exfalso; omega) | contradiction | skip)
    | refine Goal.guardB rfl rfl (fun hc => ?_) (fun hc => ?_)
    | (apply G.pickT; exact rfl; exact rfl; exact rfl)
    | (apply G.pickF; exact rfl; exact rfl; exact rfl)
    | (apply G.eql; exact rfl; exact rfl; exact rfl)
    | (refine Goal.quiet rfl (Run.eqlP T.ptr_24 rfl rfl rfl) ?_)
    | (apply G.notT; exact rfl; exact rfl)
    | (apply G.notF; exact rfl; exact rfl)
    | (refine G.notD rfl rfl ?_)
    | (apply G.notB; exact rfl; exact rfl)
    | (apply G.extract; exact rfl; exact rfl; exact rfl))
  refine Goal.done (vs := [_]) (by first | exact .inl rfl | exact .inr rfl) Try.results9 ⟨rfl, trivial⟩ rfl (fun w' H => ⟨ret_bool (by decide), H.mod⟩)
set_option maxHeartbeats 4000000 in
theorem law_nil (n : Int) (w : World) : Calls Try.prog 8 #[.int .i64 n] w fun e w' => e = .returned (.bool true) ∧ Mod [] w w' := by
  refine Goal.enter (args := [.int .i64 n]) Try.func8 rfl Try.ntmps8 rfl (St.nil w) ?_
  repeat' (first
    | (refine Goal.loud (o := ⟨some 11, _, _, _, _, _⟩) rfl ?_; apply Loud.call0; exact rfl; exact rfl; exact rfl; exact rfl; exact T.bod_9; exact (fun w H => awake_any w))
    | (refine Goal.loud (o := ⟨some 17, _, _, _, _, _⟩) rfl ?_; apply Loud.call0; exact rfl; exact rfl; exact rfl; exact rfl; exact T.bod_11; exact (fun w H => add_nil n n w))
    | (refine Goal.loud (o := ⟨some 22, _, _, _, _, _⟩) rfl ?_; apply Loud.call0; exact rfl; exact rfl; exact rfl; exact rfl; exact T.bod_12; exact (fun w H => next_nil w))
    | (refine Goal.loud (o := ⟨some 28, _, _, _, _, _⟩) rfl ?_; apply Loud.call0; exact rfl; exact rfl; exact rfl; exact rfl; exact T.bod_19; exact (fun w H => peek_nil w))
    | (refine Goal.loud (o := ⟨some 40, _, _, _, _, _⟩) rfl ?_; apply Loud.call0; exact rfl; exact rfl; exact rfl; exact rfl; exact T.bod_14; exact (fun w H => cancel_nil n w))
    | (refine Goal.loud (o := ⟨some 65, _, _, _, _, _⟩) rfl ?_; apply Loud.call0; exact rfl; exact rfl; exact rfl; exact rfl; exact T.bod_15; exact (fun w H => now_nil w))
    | (refine Goal.loud (o := ⟨some 70, _, _, _, _, _⟩) rfl ?_; apply Loud.call0; exact rfl; exact rfl; exact rfl; exact rfl; exact T.bod_13; exact (fun w H => len_nil w))
    | (apply G.move; exact rfl; exact rfl)
    | (apply G.assign; exact rfl; exact rfl)
    | refine Goal.seq (fun _ _ => ?_)
    | refine Goal.next (by assumption) ?_
    | refine Goal.lnil ?_
    | refine Goal.region ?_
    | refine Goal.skip ?_
    | refine Goal.block ?_
    | refine Goal.exit ?_
    | refine Goal.ret ?_
    | refine Goal.then_exit ?_
    | refine Goal.then_ret ?_
    | refine Goal.inBlock_exit ?_
    | refine Goal.inBlock_normal ?_
    | refine Goal.inBlock_ret ?_
    | refine Goal.inBlock_other rfl ?_
    | (apply Goal.condT; exact rfl)
    | (apply Goal.condF; exact rfl)
    | (refine Goal.condD rfl (fun hc => ?_) (fun hc => ?_) <;> first | (exfalso; omega) | contradiction | skip)
    | refine Goal.condB rfl (fun hc => ?_) (fun hc => ?_)
    | refine Goal.guardT rfl rfl ?_
    | refine Goal.guardF rfl rfl rfl rfl ?_
    | refine Goal.guardU rfl rfl rfl ?_
    | (refine Goal.guardD rfl rfl (fun hc => ?_) (fun hc => ?_) <;> first | (exfalso; omega) | contradiction | skip)
    | refine Goal.guardB rfl rfl (fun hc => ?_) (fun hc => ?_)
    | (apply G.pickT; exact rfl; exact rfl; exact rfl)
    | (apply G.pickF; exact rfl; exact rfl; exact rfl)
    | (apply G.eql; exact rfl; exact rfl; exact rfl)
    | (apply G.notT; exact rfl; exact rfl)
    | (apply G.notF; exact rfl; exact rfl)
    | (refine G.notD rfl rfl ?_)
    | (apply G.notB; exact rfl; exact rfl)
    | (apply G.extract; exact rfl; exact rfl; exact rfl))
  refine Goal.done (vs := [_]) (by first | exact .inl rfl | exact .inr rfl) Try.results8 ⟨rfl, trivial⟩ rfl (fun w' H => ⟨ret_bool (by decide), H.mod⟩)
end Go.Proofs.Ytcekjnfdgbeekaa
