/- Package pq: Extended. -/
import Derived.Test.YtldoplehchngfaaPqE
namespace Go.Proofs.Ytldoplehchngfaa
open Go.Wf
set_option linter.unusedVariables false
/-- What some outgoing arcs add to a P-space. -/
def ExtP (tp : Top) (dn : List Bool) (A B : Int → Int → Int) (n : Int) (l : List Int) (k : Int) : Prop := (0 ≤ k ∧ k < tp.n) ∧ (FreeP tp dn (A n) (B k) n k ∨ ∃ a ∈ l, ba dn a = false ∧ (k = tp.hd a ∨ (tp.over (tp.hd a) = false ∧ FreeP tp dn (A (tp.hd a)) (B k) (tp.hd a) k)))
theorem ExtP.app {tp : Top} {dn : List Bool} {A B : Int → Int → Int} {n k a : Int} {l : List Int} : ExtP tp dn A B n (l ++ [a]) k ↔ ExtP tp dn A B n l k ∨ ((0 ≤ k ∧ k < tp.n) ∧ ba dn a = false ∧ (k = tp.hd a ∨ (tp.over (tp.hd a) = false ∧ FreeP tp dn (A (tp.hd a)) (B k) (tp.hd a) k))) := by
  unfold ExtP
  constructor
  · rintro ⟨h0, h | ⟨c, hc, h⟩⟩
    · exact .inl ⟨h0, .inl h⟩
    · rcases List.mem_append.1 hc with hc | hc
      · exact .inl ⟨h0, .inr ⟨c, hc, h⟩⟩
      · rw [List.mem_singleton.1 hc] at h
        exact .inr ⟨h0, h⟩
  · rintro (⟨h0, h | ⟨c, hc, h⟩⟩ | ⟨h0, h⟩)
    · exact ⟨h0, .inl h⟩
    · exact ⟨h0, .inr ⟨c, List.mem_append_left _ hc, h⟩⟩
    · exact ⟨h0, .inr ⟨a, List.mem_append_right _ (List.mem_singleton.2 rfl), h⟩⟩
section
variable {tp : Top} {dn : List Bool} {A B : Int → Int → Int} {n a : Int} {l : List Int} {m m2 : Nat} {q : Int → Bool}
theorem ext_far (hh : 0 ≤ tp.hd a ∧ tp.hd a < tp.n) (hup : ba dn a = false) (hov : tp.over (tp.hd a) = false) (hb : ∀ k : Nat, m.testBit k = true ↔ ExtP tp dn A B n l k) (hb2 : ∀ k : Nat, m2.testBit k = (decide ((k : Int) < tp.n) && q k)) (hq : ∀ k, q k = true ↔ FreeP tp dn (A (tp.hd a)) (B k) (tp.hd a) k) : ∀ k : Nat, ((m ||| 2 ^ (tp.hd a).toNat) ||| m2).testBit k = true ↔ ExtP tp dn A B n (l ++ [a]) k := fun k => by
  rw [Nat.testBit_or, Bool.or_eq_true, bit_or_two, Bool.or_eq_true, hb k, hb2 k, Bool.and_eq_true, decide_eq_true_eq, decide_eq_true_eq, hq, ExtP.app]
  constructor
  · rintro ((h | h) | ⟨h1, h⟩)
    · exact .inl h
    · exact .inr ⟨by omega, hup, .inl (by omega)⟩
    · exact .inr ⟨⟨by omega, h1⟩, hup, .inr ⟨hov, h⟩⟩
  · rintro (h | ⟨h0, _, h | ⟨_, h⟩⟩)
    · exact .inl (.inl h)
    · exact .inl (.inr (by omega))
    · exact .inr ⟨h0.2, h⟩
theorem ext_near (hh : 0 ≤ tp.hd a ∧ tp.hd a < tp.n) (hup : ba dn a = false) (hov : tp.over (tp.hd a) = true) (hb : ∀ k : Nat, m.testBit k = true ↔ ExtP tp dn A B n l k) : ∀ k : Nat, (m ||| 2 ^ (tp.hd a).toNat).testBit k = true ↔ ExtP tp dn A B n (l ++ [a]) k := fun k => by
  rw [bit_or_two, Bool.or_eq_true, hb k, decide_eq_true_eq, ExtP.app]
  constructor
  · rintro (h | h)
    · exact .inl h
    · exact .inr ⟨by omega, hup, .inl (by omega)⟩
  · rintro (h | ⟨h0, _, h | ⟨h, _⟩⟩)
    · exact .inl h
    · exact .inr (by omega)
    · rw [hov] at h; cases h
theorem ext_down (hup : ba dn a = true) (hb : ∀ k : Nat, m.testBit k = true ↔ ExtP tp dn A B n l k) : ∀ k : Nat, m.testBit k = true ↔ ExtP tp dn A B n (l ++ [a]) k := fun k => by
  rw [hb k, ExtP.app]
  exact ⟨.inl, fun h => h.elim id fun h => by rw [hup] at h; cases h.2.1⟩
end
section
variable {w : World} {tp : Top} {vo vl vd : Value} {dn : List Bool} {n x y : Int} {A Bq : Int → Int → Int} {p : Int → Bool}
theorem extended_bad (hT : TopR w vo vl tp) (hd : RdV w vd (bools dn)) (hl : tp.ls.length ≤ 1048576) (hov : tp.ov.length ≤ 140737488355328) (hc : chk tp dn [n] ≠ 0) : Calls Try.prog 41 #[.agg #[.int .i64 tp.n, vo, vl], vd, .int .i64 n] w fun e w' => e = .returned (.tuple #[.slice none 0 0, .int .i64 (chk tp dn [n])]) ∧ Mod [] w w' := by
  have hbad := fun w' (hT : TopR w' vo vl tp) (hd : RdV w' vd (bools dn)) => check26_ok (n := n) hT hd hl hov
  generalize chk tp dn [n] = k at hbad hc
  refine Goal.enter (args := [.agg #[.int .i64 tp.n, vo, vl], vd, .int .i64 n]) Try.func41 rfl Try.ntmps41 rfl (St.nil w) ?_
  repeat' (first
    | (refine Goal.loud (o := ⟨some 17, _, _, _, _, _⟩) rfl ?_; apply Loud.call0; exact rfl; exact rfl; exact rfl; exact rfl; exact T.bod_58; exact (fun w' H => hbad w' (hT.keep H.mod) (hd.keep H.mod)))
    | (refine Goal.loud (o := ⟨some 3, _, _, _, _, _⟩) rfl ?_; first | refine Loud.boxA rfl rfl (fun b3 => ?_) | refine Loud.box1 rfl rfl rfl (fun b3 => ?_))
    | (refine Goal.loud (o := ⟨some 24, _, _, _, _, _⟩) rfl ?_; first | refine Loud.boxA rfl rfl (fun b24 => ?_) | refine Loud.box1 rfl rfl rfl (fun b24 => ?_))
    | (apply G.move; exact rfl; exact rfl)
    | (apply G.assign; exact rfl; exact rfl)
    | refine Goal.seq (fun _ _ => ?_)
    | refine Goal.next (by assumption) ?_
    | refine Goal.lnil ?_
    | refine Goal.region ?_
    | refine Goal.skip ?_
    | refine Goal.block ?_
    | refine Goal.exit ?_
    | refine Goal.ret ?_
    | refine Goal.then_exit ?_
    | refine Goal.then_ret ?_
    | refine Goal.inBlock_exit ?_
    | refine Goal.inBlock_normal ?_
    | refine Goal.inBlock_ret ?_
    | refine Goal.inBlock_other rfl ?_
    | (apply Goal.condT; exact rfl)
    | (apply Goal.condF; exact rfl)
    | (refine Goal.condD rfl (fun hc => ?_) (fun hc => ?_) <;> first | (exfalso; omega) | contradiction | skip)
    | refine Goal.condB rfl (fun hc => ?_) (fun hc => ?_)
    | (apply G.load; exact rfl; exact rfl; first | exact LoadOK.one T.one_3 0 rfl rfl | exact LoadOK.one T.one_3 1 rfl rfl | exact LoadOK.one T.one_3 2 rfl rfl | exact LoadOK.one T.one_3 3 rfl rfl | exact LoadOK.one T.one_3 4 rfl rfl | exact ag3 T.agg_25 0 rfl rfl rfl rfl | exact ag3 T.agg_25 1 rfl rfl rfl rfl | exact ag3 T.agg_25 2 rfl rfl rfl rfl | exact ag3 T.agg_25 3 rfl rfl rfl rfl | exact ag3 T.agg_25 4 rfl rfl rfl rfl)
    | (apply G.lss; exact rfl; exact rfl; exact rfl)
    | (apply G.neq; exact rfl; exact rfl; exact rfl)
    | (apply G.add; exact rfl; exact rfl; exact rfl; exact IntWalk.i64_in _ (by omega))
    | (refine Goal.quiet rfl (Run.shl1B rfl rfl (by omega)) ?_)
    | (refine Goal.quiet rfl (Run.orB rfl rfl (by first | assumption | exact two_lt (by omega) | exact shr_lt (by assumption)) (by first | assumption | exact two_lt (by omega) | exact shr_lt (by assumption))) ?_)
    | (apply G.notT; exact rfl; exact rfl)
    | (apply G.notF; exact rfl; exact rfl)
    | (refine G.notD rfl rfl ?_)
    | (apply G.notB; exact rfl; exact rfl)
    | (apply G.len; exact rfl; exact rfl; exact T.slc_30)
    | (refine G.indexAddr1 rfl T.slc_30 T.sz_3 rfl rfl _ rfl (by omega) ?_)
    | (refine G.indexAddr1 rfl T.slc_30 T.sz_3 rfl rfl _ (Int.toNat_of_nonneg (by omega)).symm (by omega) ?_))
  refine Goal.done (vs := [_, _]) (by first | exact .inl rfl | exact .inr rfl) Try.results41 ⟨rfl, rfl, trivial⟩ rfl (fun w' H => ⟨rfl, H.mod⟩)
set_option maxHeartbeats 8000000 in
theorem extended_ok (hT : TopR w vo vl tp) (hd : RdV w vd (bools dn)) (ht : tp.Ok) (hf : Fit tp dn) (hx : 0 ≤ n ∧ n < tp.n) (hA : ∀ x, Bell tp.n x (GF tp [] x) (A x)) (hB : ∀ y, Bell tp.n y (GD tp [] y) (Bq y)) (hp : ∀ k, p k = true ↔ ExtP tp dn A Bq n (arcsAt tp.tl tp.arcs.toNat n) k) :
    Calls Try.prog 41 #[.agg #[.int .i64 tp.n, vo, vl], vd, .int .i64 n] w fun e w' => ∃ x : PV, Sl x.v 3 1 (selL tp.n.toNat p).length (ints (selL tp.n.toNat p)) x.A ∧ e = .returned (.tuple #[x.v, .int .i64 0]) ∧ St w [] w' x.A := by
  have hn := ht.n
  have hln := ht.ln
  have hovl := ht.ov
  have har0 : tp.arcs = 2 * (tp.ls.length : Int) := rfl
  obtain ⟨ad, cd, rfl⟩ := shapeB hd
  obtain ⟨q, hq⟩ := pred_of (fun k => FreeP tp dn (A n) (Bq k) n k)
  refine Goal.enter (args := [.agg #[.int .i64 tp.n, vo, vl], .slice ad dn.length cd, .int .i64 n]) Try.func41 rfl Try.ntmps41 rfl (St.nil w) ?_
  repeat' (first
    | (refine Goal.loud (o := ⟨some 17, _, _, _, _, _⟩) rfl ?_; apply Loud.call0; exact rfl; exact rfl; exact rfl; exact rfl; exact T.bod_58; exact (fun w' H => check26_ok (n := n) (hT.keep H.mod) (hd.keep H.mod) (by omega) (by omega)); rw [chk_ok ht hf hx])
    | (refine Goal.loud (o := ⟨some 27, _, _, _, _, _⟩) rfl ?_; refine Loud.call (SS := [b24]) (A := [(b24, .cells (zc tp vo vl (.slice ad dn.length cd) noneL noneL).toArray 64)]) (R := [(b3, .cells #[.int .i64 tp.n, vo, vl] 25)]) (fst := []) (cap := #[]) (vs := [_, _]) rfl rfl rfl rfl T.bod_67 (fun _ h => h) (by simp [keys]) (fun w' H => around_ok (zi_none tp) (St.start H.left.own H.left.nd (fun _ h => h)) (fun w'' hm => hT.keep (H.modOf hm (by simp [keys]))) (fun w'' hm => hd.keep (H.modOf hm (by simp [keys]))) ht hf hx hA hB hq) ?_; rintro ⟨Fs, Ts, B, m⟩ ⟨hZ, hm, hb⟩; dsimp only at hZ hm hb ⊢; refine Goal.reL (L' := (b3, .cells #[.int .i64 tp.n, vo, vl] 25) :: ((b24, .cells (zc tp vo vl (.slice ad dn.length cd) Fs Ts).toArray 64) :: B)) (fun _ h => h.perm (List.perm_append_comm (l₂ := [_]))) ?_)
    | (refine Goal.loud (o := ⟨some 30, _, _, _, _, _⟩) rfl ?_; apply Loud.callN; exact rfl; exact rfl; exact rfl; exact rfl; exact T.bod_60; exact (fun w' H => out_ok (n := n) (hT.keep H.mod) ht); rintro ⟨v, Ao⟩ hSo; dsimp only at hSo ⊢; obtain ⟨av, cv, rfl⟩ := hSo.shape)
    | (refine Goal.loud (o := ⟨some 3, _, _, _, _, _⟩) rfl ?_; first | refine Loud.boxA rfl rfl (fun b3 => ?_) | refine Loud.box1 rfl rfl rfl (fun b3 => ?_))
    | (refine Goal.loud (o := ⟨some 24, _, _, _, _, _⟩) rfl ?_; first | refine Loud.boxA rfl rfl (fun b24 => ?_) | refine Loud.box1 rfl rfl rfl (fun b24 => ?_))
    | (refine Goal.quiet rfl (Run.build (cs := zc tp vo vl (.slice ad dn.length cd) noneL noneL) lay_tester rfl (by kernel_rfl)) ?_)
    | (apply G.move; exact rfl; exact rfl)
    | (apply G.assign; exact rfl; exact rfl)
    | refine Goal.seq (fun _ _ => ?_)
    | refine Goal.next (by assumption) ?_
    | refine Goal.lnil ?_
    | refine Goal.region ?_
    | refine Goal.skip ?_
    | refine Goal.block ?_
    | refine Goal.exit ?_
    | refine Goal.ret ?_
    | refine Goal.then_exit ?_
    | refine Goal.then_ret ?_
    | refine Goal.inBlock_exit ?_
    | refine Goal.inBlock_normal ?_
    | refine Goal.inBlock_ret ?_
    | refine Goal.inBlock_other rfl ?_
    | (apply Goal.condT; exact rfl)
    | (apply Goal.condF; exact rfl)
    | (refine Goal.condD rfl (fun hc => ?_) (fun hc => ?_) <;> first | (exfalso; omega) | contradiction | skip)
    | refine Goal.condB rfl (fun hc => ?_) (fun hc => ?_)
    | (apply G.load; exact rfl; exact rfl; first | exact LoadOK.one T.one_3 0 rfl rfl | exact LoadOK.one T.one_3 1 rfl rfl | exact LoadOK.one T.one_3 2 rfl rfl | exact LoadOK.one T.one_3 3 rfl rfl | exact LoadOK.one T.one_3 4 rfl rfl | exact ag3 T.agg_25 0 rfl rfl rfl rfl | exact ag3 T.agg_25 1 rfl rfl rfl rfl | exact ag3 T.agg_25 2 rfl rfl rfl rfl | exact ag3 T.agg_25 3 rfl rfl rfl rfl | exact ag3 T.agg_25 4 rfl rfl rfl rfl)
    | (apply G.lss; exact rfl; exact rfl; exact rfl)
    | (apply G.neq; exact rfl; exact rfl; exact rfl)
    | (apply G.add; exact rfl; exact rfl; exact rfl; exact IntWalk.i64_in _ (by omega))
    | (refine Goal.quiet rfl (Run.shl1B rfl rfl (by omega)) ?_)
    | (refine Goal.quiet rfl (Run.orB rfl rfl (by first | assumption | exact two_lt (by omega) | exact shr_lt (by assumption)) (by first | assumption | exact two_lt (by omega) | exact shr_lt (by assumption))) ?_)
    | (apply G.notT; exact rfl; exact rfl)
    | (apply G.notF; exact rfl; exact rfl)
    | (refine G.notD rfl rfl ?_)
    | (apply G.notB; exact rfl; exact rfl)
    | (apply G.len; exact rfl; exact rfl; exact T.slc_30)
    | (refine G.indexAddr1 rfl T.slc_30 T.sz_3 rfl rfl _ rfl (by omega) ?_)
    | (refine G.indexAddr1 rfl T.slc_30 T.sz_3 rfl rfl _ (Int.toNat_of_nonneg (by omega)).symm (by omega) ?_))
  have hol := arcsAt_len tp.tl tp.arcs.toNat n
  have hb0 : ∀ k : Nat, m.testBit k = true ↔ ExtP tp dn A Bq n [] k := fun k => by
    rw [hb k, Bool.and_eq_true, decide_eq_true_eq, hq]
    unfold ExtP
    simp
  refine Goal.loopP (X := ZL) (fun s => [(1, .slice ad dn.length cd), (3, .pointer (some ⟨b3, 0, none⟩)), (9, .pointer (some ⟨b24, 0, none⟩)), (10, .int .u64 (s.m : Int)), (30, .slice av (arcsAt tp.tl tp.arcs.toNat n).length cv), (31, .int .i64 (arcsAt tp.tl tp.arcs.toNat n).length), (32, .int .i64 s.i)])
    (fun s => (b3, .cells #[.int .i64 tp.n, vo, vl] 25) :: ((b24, .cells (zc tp vo vl (.slice ad dn.length cd) s.Fs s.Ts).toArray 64) :: s.B) ++ Ao)
    (fun s => (0 ≤ s.i ∧ s.i ≤ (arcsAt tp.tl tp.arcs.toNat n).length) ∧ ZI tp s.Fs s.Ts s.B ∧ s.m < 18446744073709551616 ∧ ∀ k : Nat, s.m.testBit k = true ↔ ExtP tp dn A Bq n ((arcsAt tp.tl tp.arcs.toNat n).take s.i.toNat) k) (fun s => ((arcsAt tp.tl tp.arcs.toNat n).length - s.i).toNat) ⟨0, Fs, Ts, B, m⟩ ⟨rfl, rfl, rfl, rfl, rfl, rfl, rfl, trivial⟩ (fun _ h => h) ⟨by dsimp only; omega, hZ, hm, hb0⟩ ?_
  clear hZ hm hb hb0 hq q Fs Ts B m
  rintro ⟨i, Fs, Ts, B, m⟩ ⟨hi, hZ, hm, hb⟩
  dsimp only at hi hZ hm hb ⊢
  by_cases h : i < (arcsAt tp.tl tp.arcs.toNat n).length
  · have hmem := mem_ia (l := arcsAt tp.tl tp.arcs.toNat n) (i := i) ⟨hi.1, h⟩
    have htk := take_next hi.1 h
    obtain ⟨bo, resto, capo, e, rfl, _, _, _⟩ := hSo.pos (by omega)
    injection e with e1 e2 e3
    subst e1 e3
    generalize haa : ia (arcsAt tp.tl tp.arcs.toNat n) i = a at hmem htk
    generalize hll : (arcsAt tp.tl tp.arcs.toNat n).take (i + 1).toNat = l1 at htk
    generalize (arcsAt tp.tl tp.arcs.toNat n).take i.toNat = l0 at htk hb
    subst htk
    obtain ⟨har, hta⟩ := mem_arcsAt.1 hmem
    have har : 0 ≤ a ∧ a < tp.arcs := by omega
    obtain ⟨_, hh, _⟩ := ht.arc har
    have hdm : dn.length = 0 ∨ (0 ≤ a ∧ a < dn.length) := by
      rcases hf with e | e
      · exact .inl e
      · exact .inr (by omega)
    have hdl : dn.length ≤ 1048576 := by
      rcases hf with e | e <;> omega
    have hm2 := or_lt hm (two_lt (i := (tp.hd a).toNat) (by omega))
    cases hup : ba dn a
    · cases hov : tp.over (tp.hd a)
      · obtain ⟨q, hq⟩ := pred_of (fun k => FreeP tp dn (A (tp.hd a)) (Bq k) (tp.hd a) k)
        repeat' (first
          | (refine Goal.loud (o := ⟨some 38, _, _, _, _, _⟩) rfl ?_; apply Loud.call0; exact rfl; exact rfl; exact rfl; exact rfl; exact T.bod_61; exact (fun w' H => down_ok (hd.keep H.mod) hdm hdl); rw [hup])
          | (refine Goal.loud (o := ⟨some 41, _, _, _, _, _⟩) rfl ?_; apply Loud.call0; exact rfl; exact rfl; exact rfl; exact rfl; exact T.bod_69; exact (fun w' H => head_ok (hT.keep H.mod) har (by omega)))
          | (refine Goal.loud (o := ⟨some 48, _, _, _, _, _⟩) rfl ?_; apply Loud.call0; exact rfl; exact rfl; exact rfl; exact rfl; exact T.bod_70; exact (fun w' H => over_ok (hT.keep H.mod) (by omega) (by omega)); rw [hov])
          | (refine Goal.loud (o := ⟨some 53, _, _, _, _, _⟩) rfl ?_; refine Loud.call (SS := keys ((b24, Obj.cells (zc tp vo vl (.slice ad dn.length cd) Fs Ts).toArray 64) :: B)) (A := (b24, .cells (zc tp vo vl (.slice ad dn.length cd) Fs Ts).toArray 64) :: B) (R := (b3, .cells #[.int .i64 tp.n, vo, vl] 25) :: [(bo, .cells (ints (arcsAt tp.tl tp.arcs.toNat n) ++ resto).toArray 3)]) (fst := []) (cap := #[]) (vs := [_, _]) rfl rfl rfl rfl T.bod_67 (fun _ h => h.perm (List.perm_middle (l₁ := (b24, _) :: B)).symm) (fun _ h => h) (fun w' H => around_ok hZ (St.start H.left.own H.left.nd (fun _ h => h)) (fun w'' hm => hT.keep (modOf3 H hm (fun b hb => by simp only [keys, List.map_append, List.mem_append] at hb ⊢; exact .inl hb))) (fun w'' hm => hd.keep (modOf3 H hm (fun b hb => by simp only [keys, List.map_append, List.mem_append] at hb ⊢; exact .inl hb))) ht hf hh hA hB hq) ?_; rintro ⟨Fs2, Ts2, B2, m2⟩ ⟨hZ2, hmm2, hb2⟩; dsimp only at hZ2 hmm2 hb2 ⊢)
          | (refine Goal.loud (o := ⟨some 3, _, _, _, _, _⟩) rfl ?_; first | refine Loud.boxA rfl rfl (fun b3 => ?_) | refine Loud.box1 rfl rfl rfl (fun b3 => ?_))
          | (refine Goal.loud (o := ⟨some 24, _, _, _, _, _⟩) rfl ?_; first | refine Loud.boxA rfl rfl (fun b24 => ?_) | refine Loud.box1 rfl rfl rfl (fun b24 => ?_))
          | (apply G.move; exact rfl; exact rfl)
          | (apply G.assign; exact rfl; exact rfl)
          | refine Goal.seq (fun _ _ => ?_)
          | refine Goal.next (by assumption) ?_
          | refine Goal.lnil ?_
          | refine Goal.region ?_
          | refine Goal.skip ?_
          | refine Goal.block ?_
          | refine Goal.exit ?_
          | refine Goal.ret ?_
          | refine Goal.then_exit ?_
          | refine Goal.then_ret ?_
          | refine Goal.inBlock_exit ?_
          | refine Goal.inBlock_normal ?_
          | refine Goal.inBlock_ret ?_
          | refine Goal.inBlock_other rfl ?_
          | (apply Goal.condT; exact rfl)
          | (apply Goal.condF; exact rfl)
          | (refine Goal.condD rfl (fun hc => ?_) (fun hc => ?_) <;> first | (exfalso; omega) | contradiction | skip)
          | refine Goal.condB rfl (fun hc => ?_) (fun hc => ?_)
          | (apply G.load; exact rfl; exact rfl; first | exact LoadOK.iaMe (b := bo) (l := arcsAt tp.tl tp.arcs.toNat n) (rest := resto) (E := 3) (i := i) (x := a) T.one_3 (by simp) (by omega) haa | exact LoadOK.one T.one_3 0 rfl rfl | exact LoadOK.one T.one_3 1 rfl rfl | exact LoadOK.one T.one_3 2 rfl rfl | exact LoadOK.one T.one_3 3 rfl rfl | exact LoadOK.one T.one_3 4 rfl rfl | exact ag3 T.agg_25 0 rfl rfl rfl rfl | exact ag3 T.agg_25 1 rfl rfl rfl rfl | exact ag3 T.agg_25 2 rfl rfl rfl rfl | exact ag3 T.agg_25 3 rfl rfl rfl rfl | exact ag3 T.agg_25 4 rfl rfl rfl rfl)
          | (apply G.lss; exact rfl; exact rfl; exact rfl)
          | (apply G.neq; exact rfl; exact rfl; exact rfl)
          | (apply G.add; exact rfl; exact rfl; exact rfl; exact IntWalk.i64_in _ (by omega))
          | (refine Goal.quiet rfl (Run.shl1B rfl rfl (by omega)) ?_)
          | (refine Goal.quiet rfl (Run.orB rfl rfl (by first | assumption | exact two_lt (by omega) | exact shr_lt (by assumption)) (by first | assumption | exact two_lt (by omega) | exact shr_lt (by assumption))) ?_)
          | (apply G.notT; exact rfl; exact rfl)
          | (apply G.notF; exact rfl; exact rfl)
          | (refine G.notD rfl rfl ?_)
          | (apply G.notB; exact rfl; exact rfl)
          | (apply G.len; exact rfl; exact rfl; exact T.slc_30)
          | (refine G.indexAddr1 rfl T.slc_30 T.sz_3 rfl rfl _ rfl (by omega) ?_)
          | (refine G.indexAddr1 rfl T.slc_30 T.sz_3 rfl rfl _ (Int.toNat_of_nonneg (by omega)).symm (by omega) ?_))
        refine Goal.again ⟨i + 1, Fs2, Ts2, B2, (m ||| 2 ^ (tp.hd a).toNat) ||| m2⟩ ⟨by dsimp only; omega, hZ2, or_lt hm2 hmm2, by dsimp only; rw [hll]; exact ext_far hh hup hov hb hb2 hq⟩ (by dsimp only; omega) ⟨rfl, rfl, rfl, rfl, rfl, rfl, rfl, trivial⟩ (fun _ h => h.perm (List.perm_middle (l₁ := (b24, _) :: B2)))
      · skip
        repeat' (first
          | (refine Goal.loud (o := ⟨some 38, _, _, _, _, _⟩) rfl ?_; apply Loud.call0; exact rfl; exact rfl; exact rfl; exact rfl; exact T.bod_61; exact (fun w' H => down_ok (hd.keep H.mod) hdm hdl); rw [hup])
          | (refine Goal.loud (o := ⟨some 41, _, _, _, _, _⟩) rfl ?_; apply Loud.call0; exact rfl; exact rfl; exact rfl; exact rfl; exact T.bod_69; exact (fun w' H => head_ok (hT.keep H.mod) har (by omega)))
          | (refine Goal.loud (o := ⟨some 48, _, _, _, _, _⟩) rfl ?_; apply Loud.call0; exact rfl; exact rfl; exact rfl; exact rfl; exact T.bod_70; exact (fun w' H => over_ok (hT.keep H.mod) (by omega) (by omega)); rw [hov])
          | (refine Goal.loud (o := ⟨some 3, _, _, _, _, _⟩) rfl ?_; first | refine Loud.boxA rfl rfl (fun b3 => ?_) | refine Loud.box1 rfl rfl rfl (fun b3 => ?_))
          | (refine Goal.loud (o := ⟨some 24, _, _, _, _, _⟩) rfl ?_; first | refine Loud.boxA rfl rfl (fun b24 => ?_) | refine Loud.box1 rfl rfl rfl (fun b24 => ?_))
          | (apply G.move; exact rfl; exact rfl)
          | (apply G.assign; exact rfl; exact rfl)
          | refine Goal.seq (fun _ _ => ?_)
          | refine Goal.next (by assumption) ?_
          | refine Goal.lnil ?_
          | refine Goal.region ?_
          | refine Goal.skip ?_
          | refine Goal.block ?_
          | refine Goal.exit ?_
          | refine Goal.ret ?_
          | refine Goal.then_exit ?_
          | refine Goal.then_ret ?_
          | refine Goal.inBlock_exit ?_
          | refine Goal.inBlock_normal ?_
          | refine Goal.inBlock_ret ?_
          | refine Goal.inBlock_other rfl ?_
          | (apply Goal.condT; exact rfl)
          | (apply Goal.condF; exact rfl)
          | (refine Goal.condD rfl (fun hc => ?_) (fun hc => ?_) <;> first | (exfalso; omega) | contradiction | skip)
          | refine Goal.condB rfl (fun hc => ?_) (fun hc => ?_)
          | (apply G.load; exact rfl; exact rfl; first | exact LoadOK.iaMe (b := bo) (l := arcsAt tp.tl tp.arcs.toNat n) (rest := resto) (E := 3) (i := i) (x := a) T.one_3 (by simp) (by omega) haa | exact LoadOK.one T.one_3 0 rfl rfl | exact LoadOK.one T.one_3 1 rfl rfl | exact LoadOK.one T.one_3 2 rfl rfl | exact LoadOK.one T.one_3 3 rfl rfl | exact LoadOK.one T.one_3 4 rfl rfl | exact ag3 T.agg_25 0 rfl rfl rfl rfl | exact ag3 T.agg_25 1 rfl rfl rfl rfl | exact ag3 T.agg_25 2 rfl rfl rfl rfl | exact ag3 T.agg_25 3 rfl rfl rfl rfl | exact ag3 T.agg_25 4 rfl rfl rfl rfl)
          | (apply G.lss; exact rfl; exact rfl; exact rfl)
          | (apply G.neq; exact rfl; exact rfl; exact rfl)
          | (apply G.add; exact rfl; exact rfl; exact rfl; exact IntWalk.i64_in _ (by omega))
          | (refine Goal.quiet rfl (Run.shl1B rfl rfl (by omega)) ?_)
          | (refine Goal.quiet rfl (Run.orB rfl rfl (by first | assumption | exact two_lt (by omega) | exact shr_lt (by assumption)) (by first | assumption | exact two_lt (by omega) | exact shr_lt (by assumption))) ?_)
          | (apply G.notT; exact rfl; exact rfl)
          | (apply G.notF; exact rfl; exact rfl)
          | (refine G.notD rfl rfl ?_)
          | (apply G.notB; exact rfl; exact rfl)
          | (apply G.len; exact rfl; exact rfl; exact T.slc_30)
          | (refine G.indexAddr1 rfl T.slc_30 T.sz_3 rfl rfl _ rfl (by omega) ?_)
          | (refine G.indexAddr1 rfl T.slc_30 T.sz_3 rfl rfl _ (Int.toNat_of_nonneg (by omega)).symm (by omega) ?_))
        refine Goal.again ⟨i + 1, Fs, Ts, B, m ||| 2 ^ (tp.hd a).toNat⟩ ⟨by dsimp only; omega, hZ, hm2, by dsimp only; rw [hll]; exact ext_near hh hup hov hb⟩ (by dsimp only; omega) ⟨rfl, rfl, rfl, rfl, rfl, rfl, rfl, trivial⟩ (fun _ h => h)
    · skip
      repeat' (first
        | (refine Goal.loud (o := ⟨some 38, _, _, _, _, _⟩) rfl ?_; apply Loud.call0; exact rfl; exact rfl; exact rfl; exact rfl; exact T.bod_61; exact (fun w' H => down_ok (hd.keep H.mod) hdm hdl); rw [hup])
        | (refine Goal.loud (o := ⟨some 3, _, _, _, _, _⟩) rfl ?_; first | refine Loud.boxA rfl rfl (fun b3 => ?_) | refine Loud.box1 rfl rfl rfl (fun b3 => ?_))
        | (refine Goal.loud (o := ⟨some 24, _, _, _, _, _⟩) rfl ?_; first | refine Loud.boxA rfl rfl (fun b24 => ?_) | refine Loud.box1 rfl rfl rfl (fun b24 => ?_))
        | (apply G.move; exact rfl; exact rfl)
        | (apply G.assign; exact rfl; exact rfl)
        | refine Goal.seq (fun _ _ => ?_)
        | refine Goal.next (by assumption) ?_
        | refine Goal.lnil ?_
        | refine Goal.region ?_
        | refine Goal.skip ?_
        | refine Goal.block ?_
        | refine Goal.exit ?_
        | refine Goal.ret ?_
        | refine Goal.then_exit ?_
        | refine Goal.then_ret ?_
        | refine Goal.inBlock_exit ?_
        | refine Goal.inBlock_normal ?_
        | refine Goal.inBlock_ret ?_
        | refine Goal.inBlock_other rfl ?_
        | (apply Goal.condT; exact rfl)
        | (apply Goal.condF; exact rfl)
        | (refine Goal.condD rfl (fun hc => ?_) (fun hc => ?_) <;> first | (exfalso; omega) | contradiction | skip)
        | refine Goal.condB rfl (fun hc => ?_) (fun hc => ?_)
        | (apply G.load; exact rfl; exact rfl; first | exact LoadOK.iaMe (b := bo) (l := arcsAt tp.tl tp.arcs.toNat n) (rest := resto) (E := 3) (i := i) (x := a) T.one_3 (by simp) (by omega) haa | exact LoadOK.one T.one_3 0 rfl rfl | exact LoadOK.one T.one_3 1 rfl rfl | exact LoadOK.one T.one_3 2 rfl rfl | exact LoadOK.one T.one_3 3 rfl rfl | exact LoadOK.one T.one_3 4 rfl rfl | exact ag3 T.agg_25 0 rfl rfl rfl rfl | exact ag3 T.agg_25 1 rfl rfl rfl rfl | exact ag3 T.agg_25 2 rfl rfl rfl rfl | exact ag3 T.agg_25 3 rfl rfl rfl rfl | exact ag3 T.agg_25 4 rfl rfl rfl rfl)
        | (apply G.lss; exact rfl; exact rfl; exact rfl)
        | (apply G.neq; exact rfl; exact rfl; exact rfl)
        | (apply G.add; exact rfl; exact rfl; exact rfl; exact IntWalk.i64_in _ (by omega))
        | (refine Goal.quiet rfl (Run.shl1B rfl rfl (by omega)) ?_)
        | (refine Goal.quiet rfl (Run.orB rfl rfl (by first | assumption | exact two_lt (by omega) | exact shr_lt (by assumption)) (by first | assumption | exact two_lt (by omega) | exact shr_lt (by assumption))) ?_)
        | (apply G.notT; exact rfl; exact rfl)
        | (apply G.notF; exact rfl; exact rfl)
        | (refine G.notD rfl rfl ?_)
        | (apply G.notB; exact rfl; exact rfl)
        | (apply G.len; exact rfl; exact rfl; exact T.slc_30)
        | (refine G.indexAddr1 rfl T.slc_30 T.sz_3 rfl rfl _ rfl (by omega) ?_)
        | (refine G.indexAddr1 rfl T.slc_30 T.sz_3 rfl rfl _ (Int.toNat_of_nonneg (by omega)).symm (by omega) ?_))
      refine Goal.again ⟨i + 1, Fs, Ts, B, m⟩ ⟨by dsimp only; omega, hZ, hm, by dsimp only; rw [hll]; exact ext_down hup hb⟩ (by dsimp only; omega) ⟨rfl, rfl, rfl, rfl, rfl, rfl, rfl, trivial⟩ (fun _ h => h)
  · obtain rfl : i = (arcsAt tp.tl tp.arcs.toNat n).length := by omega
    rw [Int.toNat_natCast, List.take_length] at hb
    have hbp : ∀ k : Nat, m.testBit k = (decide ((k : Int) < tp.n) && p k) := fun k => by
      refine Bool.eq_iff_iff.2 ?_
      rw [hb k, Bool.and_eq_true, decide_eq_true_eq, hp]
      exact ⟨fun h => ⟨h.1.2, h⟩, fun h => h.2⟩
    repeat' (first
      | (refine Goal.loud (o := ⟨some 57, _, _, _, _, _⟩) rfl ?_; apply Loud.callN; exact rfl; exact rfl; exact rfl; exact rfl; exact T.bod_63; exact (fun w' H => nodes_ok hm w'); rintro ⟨v, A1⟩ hS; dsimp only at hS ⊢; rw [bits_sel (by omega) hbp] at hS)
      | (refine Goal.loud (o := ⟨some 3, _, _, _, _, _⟩) rfl ?_; first | refine Loud.boxA rfl rfl (fun b3 => ?_) | refine Loud.box1 rfl rfl rfl (fun b3 => ?_))
      | (refine Goal.loud (o := ⟨some 24, _, _, _, _, _⟩) rfl ?_; first | refine Loud.boxA rfl rfl (fun b24 => ?_) | refine Loud.box1 rfl rfl rfl (fun b24 => ?_))
      | (apply G.move; exact rfl; exact rfl)
      | (apply G.assign; exact rfl; exact rfl)
      | refine Goal.seq (fun _ _ => ?_)
      | refine Goal.next (by assumption) ?_
      | refine Goal.lnil ?_
      | refine Goal.region ?_
      | refine Goal.skip ?_
      | refine Goal.block ?_
      | refine Goal.exit ?_
      | refine Goal.ret ?_
      | refine Goal.then_exit ?_
      | refine Goal.then_ret ?_
      | refine Goal.inBlock_exit ?_
      | refine Goal.inBlock_normal ?_
      | refine Goal.inBlock_ret ?_
      | refine Goal.inBlock_other rfl ?_
      | (apply Goal.condT; exact rfl)
      | (apply Goal.condF; exact rfl)
      | (refine Goal.condD rfl (fun hc => ?_) (fun hc => ?_) <;> first | (exfalso; omega) | contradiction | skip)
      | refine Goal.condB rfl (fun hc => ?_) (fun hc => ?_)
      | (apply G.load; exact rfl; exact rfl; first | exact LoadOK.one T.one_3 0 rfl rfl | exact LoadOK.one T.one_3 1 rfl rfl | exact LoadOK.one T.one_3 2 rfl rfl | exact LoadOK.one T.one_3 3 rfl rfl | exact LoadOK.one T.one_3 4 rfl rfl | exact ag3 T.agg_25 0 rfl rfl rfl rfl | exact ag3 T.agg_25 1 rfl rfl rfl rfl | exact ag3 T.agg_25 2 rfl rfl rfl rfl | exact ag3 T.agg_25 3 rfl rfl rfl rfl | exact ag3 T.agg_25 4 rfl rfl rfl rfl)
      | (apply G.lss; exact rfl; exact rfl; exact rfl)
      | (apply G.neq; exact rfl; exact rfl; exact rfl)
      | (apply G.add; exact rfl; exact rfl; exact rfl; exact IntWalk.i64_in _ (by omega))
      | (refine Goal.quiet rfl (Run.shl1B rfl rfl (by omega)) ?_)
      | (refine Goal.quiet rfl (Run.orB rfl rfl (by first | assumption | exact two_lt (by omega) | exact shr_lt (by assumption)) (by first | assumption | exact two_lt (by omega) | exact shr_lt (by assumption))) ?_)
      | (apply G.notT; exact rfl; exact rfl)
      | (apply G.notF; exact rfl; exact rfl)
      | (refine G.notD rfl rfl ?_)
      | (apply G.notB; exact rfl; exact rfl)
      | (apply G.len; exact rfl; exact rfl; exact T.slc_30)
      | (refine G.indexAddr1 rfl T.slc_30 T.sz_3 rfl rfl _ rfl (by omega) ?_)
      | (refine G.indexAddr1 rfl T.slc_30 T.sz_3 rfl rfl _ (Int.toNat_of_nonneg (by omega)).symm (by omega) ?_))
    refine Goal.done (vs := [_, _]) (by first | exact .inl rfl | exact .inr rfl) Try.results41 ⟨rfl, rfl, trivial⟩ rfl (fun w' H => ⟨⟨v, A1⟩, hS, rfl, H.sub (List.sublist_append_right _ _)⟩)
end
end Go.Proofs.Ytldoplehchngfaa
