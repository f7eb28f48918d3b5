/- The example of the document; the statement ChannelNil. -/
import Derived.Test.YtgidkddkoopdfaaChH
namespace Go.Proofs.Ytgidkddkoopdfaa
open Go.Wf
set_option linter.unusedVariables false
theorem send_e {bc : Nat} {s s' : Cs} {A : List Blk} {now e : Int} {l : List Int} (hA : ChM bc s A) (hs : CsOk s) (ho : s.off < 1048576) (he : sendF s now = (l, e, s')) :
    MCalls Try.prog 13 [.pointer (some ⟨bc, 0, none⟩), .int .i64 now] A (fun x : SX => Sl x.v 3 1 l.length (ints l) x.E ∧ ChM bc s' x.A) (fun x => .tuple #[x.v, .int .i64 e]) (fun x => x.A ++ x.E) := by
  have := send_ok hA hs ho now
  rw [he] at this
  exact this
theorem ok1 : okC 3 1 1 [] := ⟨by decide, by decide, by decide, fun _ h => by cases h⟩
theorem ok2 : okC 3 1 1 [(3, 4)] := ⟨by decide, by decide, by decide, fun f h => by simp at h; subst h; decide⟩
theorem e1 : sendF (zero 3 1 1 []) 5 = ([8], 0, ⟨3, 1, 1, [], 1, 5, [5]⟩) := by rfl
theorem e2 : sendF ⟨3, 1, 1, [], 1, 5, [5]⟩ 5 = ([9], 0, ⟨3, 1, 1, [], 2, 5, [5, 6]⟩) := by rfl
theorem e3 : sendF ⟨3, 1, 1, [], 2, 5, [5, 6]⟩ 5 = ([], 12, ⟨3, 1, 1, [], 3, 5, [5, 6]⟩) := by rfl
theorem e4 : sendF ⟨3, 1, 1, [], 3, 5, [5, 6]⟩ 6 = ([10], 0, ⟨3, 1, 1, [], 4, 6, [5, 6, 7]⟩) := by rfl
theorem e5 : sendF (zero 3 1 1 [(3, 4)]) 5 = ([12], 0, ⟨3, 1, 1, [(3, 4)], 1, 5, [5]⟩) := by rfl
theorem sl_same {va vb : Value} {xs : List Int} {w : World} {A B L : List Blk} (hA : Sl va 3 1 xs.length (ints xs) A) (hB : Sl vb 3 1 xs.length (ints xs) B) (ho : Own w L) (h1 : ∀ p ∈ A, p ∈ L) (h2 : ∀ p ∈ B, p ∈ L) (hl : xs.length < 9223372036854775808) :
    Calls Try.prog 15 #[va, vb] w fun e w' => e = .returned (.bool true) ∧ Mod [] w w' := by
  have := same_any (RdV.of_sl hA (Own.of_mem ho h1)) (RdV.of_sl hB (Own.of_mem ho h2)) hl hl
  rwa [decide_eq_true rfl] at this
set_option maxHeartbeats 8000000 in
theorem awake_any (w : World) : Calls Try.prog 9 #[] w fun e w' => e = .returned (.bool true) ∧ Mod [] w w' := by
  have k1 := zero_ok ok1
  have k2 := zero_ok ok2
  have k3 := sendF_ok (now := 5) k1 (by decide)
  rw [e1] at k3
  have k4 := sendF_ok (now := 5) k3 (by decide)
  rw [e2] at k4
  have k5 := sendF_ok (now := 5) k4 (by decide)
  rw [e3] at k5
  refine Goal.enter (args := []) Try.func9 rfl Try.ntmps9 rfl (St.nil w) ?_
  repeat' (first
    | (refine Goal.loud (o := ⟨some 17, _, _, _, _, _⟩) rfl ?_; apply Loud.callN; exact rfl; exact rfl; exact rfl; exact rfl; exact T.bod_11; exact (fun w H => new_ok ok1 (RdE.nil w 2) (by decide)); rintro ⟨bc, A1⟩ h1; dsimp only at h1 ⊢)
    | (refine Goal.loud (o := ⟨some 23, _, _, _, _, _⟩) rfl ?_; apply Loud.callN; exact rfl; exact rfl; exact rfl; exact rfl; exact T.bod_11; exact (fun w H => new_ok ok2 (RdE.of_sl pr_len (l := [(3, 4)]) (Sl.full rfl) (Own.of_mem H.own (by intro p hp; rw [List.mem_singleton] at hp; rw [hp]; exact .head _))) (by decide)); rintro ⟨bd, A2⟩ g1; dsimp only at g1 ⊢)
    | (refine Goal.loud (o := ⟨some 42, _, _, _, _, _⟩) rfl ?_; refine Loud.callM ([_]) (G := A2) (send_e h1 k1 (by decide) e1) rfl rfl rfl rfl T.bod_13 (fun _ h => by simpa only [List.append_assoc, List.cons_append, List.nil_append, List.append_nil] using h) ?_; rintro ⟨vx, Ex, A3⟩ ⟨hx, h2⟩; dsimp only at hx h2 ⊢)
    | (refine Goal.loud (o := ⟨some 47, _, _, _, _, _⟩) rfl ?_; refine Loud.callM ([_]) (G := Ex ++ A2) (send_e h2 k3 (by decide) e2) rfl rfl rfl rfl T.bod_13 (fun _ h => by simpa only [List.append_assoc, List.cons_append, List.nil_append, List.append_nil] using h) ?_; rintro ⟨vy, Ey, A4⟩ ⟨hy, h3⟩; dsimp only at hy h3 ⊢)
    | (refine Goal.loud (o := ⟨some 52, _, _, _, _, _⟩) rfl ?_; refine Loud.callM ([_]) (G := Ey ++ (Ex ++ A2)) (send_e h3 k4 (by decide) e3) rfl rfl rfl rfl T.bod_13 (fun _ h => by simpa only [List.append_assoc, List.cons_append, List.nil_append, List.append_nil] using h) ?_; rintro ⟨vz, Ez, A5⟩ ⟨hz, h4⟩; dsimp only at hz h4 ⊢)
    | (refine Goal.loud (o := ⟨some 57, _, _, _, _, _⟩) rfl ?_; refine Loud.callM ([_]) (G := Ez ++ (Ey ++ (Ex ++ A2))) (send_e h4 k5 (by decide) e4) rfl rfl rfl rfl T.bod_13 (fun _ h => by simpa only [List.append_assoc, List.cons_append, List.nil_append, List.append_nil] using h) ?_; rintro ⟨vu, Eu, A6⟩ ⟨hu, h5⟩; dsimp only at hu h5 ⊢)
    | (refine Goal.loud (o := ⟨some 62, _, _, _, _, _⟩) rfl ?_; refine Loud.callM (_ :: (A6 ++ (Eu ++ (Ez ++ (Ey ++ Ex))))) (G := []) (send_e g1 k2 (by decide) e5) rfl rfl rfl rfl T.bod_13 (fun _ h => by simpa only [List.append_assoc, List.cons_append, List.nil_append, List.append_nil] using h) ?_; rintro ⟨vw, Ew, A7⟩ ⟨hv, g2⟩; dsimp only at hv g2 ⊢)
    | (refine Goal.loud (o := ⟨some 68, _, _, _, _, _⟩) rfl ?_; apply Loud.call0; exact rfl; exact rfl; exact rfl; exact rfl; exact T.bod_15; exact (fun w H => sl_same hx (Sl.full rfl) H.own (by intro p hp; simp [hp]) (by intro p hp; rw [List.mem_singleton] at hp; rw [hp]; exact .head _) (by decide)))
    | (refine Goal.loud (o := ⟨some 73, _, _, _, _, _⟩) rfl ?_; apply Loud.call0; exact rfl; exact rfl; exact rfl; exact rfl; exact T.bod_15; exact (fun w H => sl_same hy (Sl.full rfl) H.own (by intro p hp; simp [hp]) (by intro p hp; rw [List.mem_singleton] at hp; rw [hp]; exact .head _) (by decide)))
    | (refine Goal.loud (o := ⟨some 87, _, _, _, _, _⟩) rfl ?_; apply Loud.call0; exact rfl; exact rfl; exact rfl; exact rfl; exact T.bod_15; exact (fun w H => sl_same hu (Sl.full rfl) H.own (by intro p hp; simp [hp]) (by intro p hp; rw [List.mem_singleton] at hp; rw [hp]; exact .head _) (by decide)))
    | (refine Goal.loud (o := ⟨some 97, _, _, _, _, _⟩) rfl ?_; apply Loud.call0; exact rfl; exact rfl; exact rfl; exact rfl; exact T.bod_15; exact (fun w H => sl_same hv (Sl.full rfl) H.own (by intro p hp; simp [hp]) (by intro p hp; rw [List.mem_singleton] at hp; rw [hp]; exact .head _) (by decide)))
    | (refine Goal.loud (o := ⟨some 22, _, _, _, _, _⟩) rfl ?_; refine Loud.buildSlice (cs := [_, _]) rfl T.slc_37 T.inf_50 rfl rfl (by decide) rfl rfl rfl (fun b22 => ?_))
    | (refine Goal.loud (o := ⟨some 67, _, _, _, _, _⟩) rfl ?_; refine Loud.buildSlice (cs := [_]) rfl T.slc_23 T.inf_3 rfl rfl (by decide) rfl rfl rfl (fun b67 => ?_))
    | (refine Goal.loud (o := ⟨some 72, _, _, _, _, _⟩) rfl ?_; refine Loud.buildSlice (cs := [_]) rfl T.slc_23 T.inf_3 rfl rfl (by decide) rfl rfl rfl (fun b72 => ?_))
    | (refine Goal.loud (o := ⟨some 86, _, _, _, _, _⟩) rfl ?_; refine Loud.buildSlice (cs := [_]) rfl T.slc_23 T.inf_3 rfl rfl (by decide) rfl rfl rfl (fun b86 => ?_))
    | (refine Goal.loud (o := ⟨some 96, _, _, _, _, _⟩) rfl ?_; refine Loud.buildSlice (cs := [_]) rfl T.slc_23 T.inf_3 rfl rfl (by decide) rfl rfl rfl (fun b96 => ?_))
    | (apply G.move; exact rfl; exact rfl)
    | (apply G.assign; exact rfl; exact rfl)
    | refine Goal.seq (fun _ _ => ?_)
    | refine Goal.next (by assumption) ?_
    | refine Goal.lnil ?_
    | refine Goal.region ?_
    | refine Goal.skip ?_
    | refine Goal.block ?_
    | refine Goal.exit ?_
    | refine Goal.ret ?_
    | refine Goal.then_exit ?_
    | refine Goal.then_ret ?_
    | refine Goal.inBlock_exit ?_
    | refine Goal.inBlock_normal ?_
    | refine Goal.inBlock_ret ?_
    | refine Goal.inBlock_other rfl ?_
    | (apply Goal.condT; exact rfl)
    | (apply Goal.condF; exact rfl)
    | (refine Goal.condD rfl (fun hc => ?_) (fun hc => ?_) <;> first | (exfalso; omega) | contradiction | skip)
    | refine Goal.condB rfl (fun hc => ?_) (fun hc => ?_)
    | refine Goal.guardT rfl rfl ?_
    | refine Goal.guardF rfl rfl rfl rfl ?_
    | refine Goal.guardU rfl rfl rfl ?_
    | (refine Goal.guardD rfl rfl (fun hc => ?_) (fun hc => ?_) <;> first | (exfalso; omega) | contradiction | skip)
    | refine Goal.guardB rfl rfl (fun hc => ?_) (fun hc => ?_)
    | (apply G.pickT; exact rfl; exact rfl; exact rfl)
    | (apply G.pickF; exact rfl; exact rfl; exact rfl)
    | (apply G.eql; exact rfl; exact rfl; exact rfl)
    | (apply G.neq; exact rfl; exact rfl; exact rfl)
    | (refine Goal.quiet rfl (Run.eqlP T.ptr_29 rfl rfl rfl) ?_)
    | (refine Goal.quiet rfl (Run.neqP T.ptr_29 rfl rfl rfl) ?_)
    | (apply G.extract; exact rfl; exact rfl; exact rfl)
    | (apply G.build (cs := [_, _]); exact rfl; exact T.lay_50; exact rfl; exact rfl))
  refine Goal.done (vs := [_]) (by first | exact .inl rfl | exact .inr rfl) Try.results9 ⟨rfl, trivial⟩ rfl (fun w' H => ⟨rfl, H.mod⟩)
theorem waiting_nil (now : Int) (w : World) : Calls Try.prog 16 #[.pointer none, .int .i64 now] w fun e w' => e = .returned (.int .i64 0) ∧ Mod [] w w' := by
  refine Goal.enter (args := [.pointer none, .int .i64 now]) Try.func16 rfl Try.ntmps16 rfl (St.nil w) ?_
  repeat' (first
    | (apply G.move; exact rfl; exact rfl)
    | (apply G.assign; exact rfl; exact rfl)
    | refine Goal.seq (fun _ _ => ?_)
    | refine Goal.next (by assumption) ?_
    | refine Goal.lnil ?_
    | refine Goal.region ?_
    | refine Goal.skip ?_
    | refine Goal.block ?_
    | refine Goal.exit ?_
    | refine Goal.ret ?_
    | refine Goal.then_exit ?_
    | refine Goal.then_ret ?_
    | refine Goal.inBlock_exit ?_
    | refine Goal.inBlock_normal ?_
    | refine Goal.inBlock_ret ?_
    | refine Goal.inBlock_other rfl ?_
    | (apply Goal.condT; exact rfl)
    | (apply Goal.condF; exact rfl)
    | (refine Goal.condD rfl (fun hc => ?_) (fun hc => ?_) <;> first | (exfalso; omega) | contradiction | skip)
    | refine Goal.condB rfl (fun hc => ?_) (fun hc => ?_)
    | (apply G.eql; exact rfl; exact rfl; exact rfl)
    | (apply G.sub; exact rfl; exact rfl; exact rfl; first | exact IntWalk.i64_in _ (by omega) | exact IntWalk.u8_in _ (by omega) | exact IntWalk.u16_in _ (by omega) | exact IntWalk.u32_in _ (by omega) | exact IntWalk.u64_in _ (by omega))
    | (refine Goal.quiet rfl (Run.eqlP T.ptr_29 rfl rfl rfl) ?_))
  refine Goal.done (vs := [_]) (by first | exact .inl rfl | exact .inr rfl) Try.results16 ⟨rfl, trivial⟩ rfl (fun w' H => ⟨rfl, H.mod⟩)
theorem offered_nil (w : World) : Calls Try.prog 20 #[.pointer none] w fun e w' => e = .returned (.int .i64 0) ∧ Mod [] w w' := by
  refine Goal.enter (args := [.pointer none]) Try.func20 rfl Try.ntmps20 rfl (St.nil w) ?_
  repeat' (first
    | (apply G.move; exact rfl; exact rfl)
    | (apply G.assign; exact rfl; exact rfl)
    | refine Goal.seq (fun _ _ => ?_)
    | refine Goal.next (by assumption) ?_
    | refine Goal.lnil ?_
    | refine Goal.region ?_
    | refine Goal.skip ?_
    | refine Goal.block ?_
    | refine Goal.exit ?_
    | refine Goal.ret ?_
    | refine Goal.then_exit ?_
    | refine Goal.then_ret ?_
    | refine Goal.inBlock_exit ?_
    | refine Goal.inBlock_normal ?_
    | refine Goal.inBlock_ret ?_
    | refine Goal.inBlock_other rfl ?_
    | (apply Goal.condT; exact rfl)
    | (apply Goal.condF; exact rfl)
    | (refine Goal.condD rfl (fun hc => ?_) (fun hc => ?_) <;> first | (exfalso; omega) | contradiction | skip)
    | refine Goal.condB rfl (fun hc => ?_) (fun hc => ?_)
    | (apply G.fieldAddr; exact rfl; exact rfl; exact T.fld_55_4)
    | (apply G.load; exact rfl; exact rfl; first | exact LoadOK.one T.one_3 0 rfl rfl | exact LoadOK.one T.one_3 1 rfl rfl | exact LoadOK.one T.one_3 2 rfl rfl | exact LoadOK.one T.one_3 3 rfl rfl | exact LoadOK.one T.one_3 4 rfl rfl | exact LoadOK.one T.one_3 5 rfl rfl | exact LoadOK.one T.one_3 6 rfl rfl | exact LoadOK.one T.one_3 7 rfl rfl)
    | (apply G.eql; exact rfl; exact rfl; exact rfl)
    | (refine Goal.quiet rfl (Run.eqlP T.ptr_29 rfl rfl rfl) ?_)
    | (apply G.nilCheckP; exact rfl; exact rfl))
  refine Goal.done (vs := [_]) (by first | exact .inl rfl | exact .inr rfl) Try.results20 ⟨rfl, trivial⟩ rfl (fun w' H => ⟨rfl, H.mod⟩)
theorem law_nil (n : Int) (w : World) : Calls Try.prog 8 #[.int .i64 n] w fun e w' => e = .returned (.bool true) ∧ Mod [] w w' := by
  refine Goal.enter (args := [.int .i64 n]) Try.func8 rfl Try.ntmps8 rfl (St.nil w) ?_
  repeat' (first
    | (refine Goal.loud (o := ⟨some 6, _, _, _, _, _⟩) rfl ?_; apply Loud.call0; exact rfl; exact rfl; exact rfl; exact rfl; exact T.bod_9; exact (fun w H => awake_any w))
    | (refine Goal.loud (o := ⟨some 11, _, _, _, _, _⟩) rfl ?_; apply Loud.call0; exact rfl; exact rfl; exact rfl; exact rfl; exact T.bod_13; exact (fun w H => send_nil n w))
    | (refine Goal.loud (o := ⟨some 24, _, _, _, _, _⟩) rfl ?_; apply Loud.call0; exact rfl; exact rfl; exact rfl; exact rfl; exact T.bod_16; exact (fun w H => waiting_nil n w))
    | (refine Goal.loud (o := ⟨some 29, _, _, _, _, _⟩) rfl ?_; apply Loud.call0; exact rfl; exact rfl; exact rfl; exact rfl; exact T.bod_20; exact (fun w H => offered_nil w))
    | (apply G.move; exact rfl; exact rfl)
    | (apply G.assign; exact rfl; exact rfl)
    | refine Goal.seq (fun _ _ => ?_)
    | refine Goal.next (by assumption) ?_
    | refine Goal.lnil ?_
    | refine Goal.region ?_
    | refine Goal.skip ?_
    | refine Goal.block ?_
    | refine Goal.exit ?_
    | refine Goal.ret ?_
    | refine Goal.then_exit ?_
    | refine Goal.then_ret ?_
    | refine Goal.inBlock_exit ?_
    | refine Goal.inBlock_normal ?_
    | refine Goal.inBlock_ret ?_
    | refine Goal.inBlock_other rfl ?_
    | (apply Goal.condT; exact rfl)
    | (apply Goal.condF; exact rfl)
    | (refine Goal.condD rfl (fun hc => ?_) (fun hc => ?_) <;> first | (exfalso; omega) | contradiction | skip)
    | refine Goal.condB rfl (fun hc => ?_) (fun hc => ?_)
    | refine Goal.guardT rfl rfl ?_
    | refine Goal.guardF rfl rfl rfl rfl ?_
    | refine Goal.guardU rfl rfl rfl ?_
    | (refine Goal.guardD rfl rfl (fun hc => ?_) (fun hc => ?_) <;> first | (exfalso; omega) | contradiction | skip)
    | refine Goal.guardB rfl rfl (fun hc => ?_) (fun hc => ?_)
    | (apply G.pickT; exact rfl; exact rfl; exact rfl)
    | (apply G.pickF; exact rfl; exact rfl; exact rfl)
    | (apply G.eql; exact rfl; exact rfl; exact rfl)
    | (apply G.notT; exact rfl; exact rfl)
    | (apply G.notF; exact rfl; exact rfl)
    | (refine G.notD rfl rfl ?_)
    | (apply G.notB; exact rfl; exact rfl)
    | (apply G.extract; exact rfl; exact rfl; exact rfl)
    | (apply G.len; exact rfl; exact rfl; exact T.slc_23))
  refine Goal.done (vs := [_]) (by first | exact .inl rfl | exact .inr rfl) Try.results8 ⟨rfl, trivial⟩ rfl (fun w' H => ⟨rfl, H.mod⟩)
end Go.Proofs.Ytgidkddkoopdfaa
