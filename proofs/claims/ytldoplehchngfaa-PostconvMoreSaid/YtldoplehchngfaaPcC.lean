/- Package postconv: Reaches, Safe; package waypointref27: Path, Extra, Safe. -/
import Derived.Test.YtldoplehchngfaaPcB
namespace Go.Proofs.Ytldoplehchngfaa
open Go.Wf
set_option linter.unusedVariables false
/-- Whether a path is found. -/
def ReS (tp : Top) (dn : List Bool) (s d er : Int) : Prop := ∃ l, DL tp.n d (GD tp dn d) l ∧ ((ia l s < 0 ∧ er = 11) ∨ (0 ≤ ia l s ∧ er = 0))
/-- Whether a node is safe. -/
def SaS (tp : Top) (dn : List Bool) (gone d : Int) (r : Bool) : Prop := ∃ m l, DL tp.n d (GD tp [] d) m ∧ DL tp.n d (GD tp dn d) l ∧ (r = true ↔ ∀ x : Int, 0 ≤ x → x < tp.n → x ≠ gone → 0 ≤ ia m x → 0 ≤ ia l x)
theorem SaS.one {tp : Top} {dn : List Bool} {g d : Int} {r r' : Bool} (ht : tp.Ok) (h : SaS tp dn g d r) (h' : SaS tp dn g d r') : r = r' := by
  obtain ⟨m, l, hm, hl, h⟩ := h
  obtain ⟨m', l', hm', hl', h'⟩ := h'
  obtain rfl := DL.one (GD.ok ht) hm hm'
  obtain rfl := DL.one (GD.ok ht) hl hl'
  exact Bool.eq_iff_iff.2 (h.trans h'.symm)
structure RX where
  (er : Int)
section
variable {w : World} {tp : Top} {vo vl vd : Value} {dn : List Bool} {s d : Int}
theorem PathS.re {l p : List Int} {v : Value} {er : Int} {A : List Blk} (hl : DL tp.n d (GD tp dn d) l) (h : PathS tp dn s d l p v er A) : ReS tp dn s d er := by
  refine ⟨l, hl, ?_⟩
  rcases h with ⟨h, _, _, he, _⟩ | ⟨h, he, _⟩
  · exact .inl ⟨h, he⟩
  · exact .inr ⟨h, he⟩
theorem use_reach (v : Value) (w : World) : Calls Try.prog 50 #[v] w fun e w' => e = .returned (.tuple #[]) ∧ Mod [] w w' := by
  refine Goal.enter (args := [v]) Try.func50 rfl Try.ntmps50 rfl (St.nil w) ?_
  repeat' (first
    | refine Goal.seq (fun _ _ => ?_)
    | refine Goal.next (by assumption) ?_
    | refine Goal.lnil ?_
    | refine Goal.region ?_
    | refine Goal.skip ?_
    | refine Goal.block ?_
    | refine Goal.exit ?_
    | refine Goal.ret ?_
    | refine Goal.then_exit ?_
    | refine Goal.then_ret ?_
    | refine Goal.inBlock_exit ?_
    | refine Goal.inBlock_normal ?_
    | refine Goal.inBlock_ret ?_
    | refine Goal.inBlock_other rfl ?_
    | (apply Goal.condT; exact rfl)
    | (apply Goal.condF; exact rfl)
    | (refine Goal.condD rfl (fun hc => ?_) (fun hc => ?_) <;> first | (exfalso; omega) | contradiction | skip)
    | refine Goal.condB rfl (fun hc => ?_) (fun hc => ?_))
  refine Goal.done (vs := []) (by first | exact .inl rfl | exact .inr rfl) Try.results50 trivial rfl (fun w' H => ⟨rfl, H.mod⟩)
theorem find_reach (hT : TopR w vo vl tp) (hd : RdV w vd (bools dn)) (ht : tp.Ok) (hf : Fit tp dn) (hs : 0 ≤ s ∧ s < tp.n) (hr : 0 ≤ d ∧ d < tp.n) :
    Calls Try.prog 44 #[.agg #[.int .i64 tp.n, vo, vl], vd, .int .i64 s, .int .i64 d, .func (.func 50) #[] #[]] w fun e w' => ∃ x : RX, ReS tp dn s d x.er ∧ e = .returned (.int .i64 x.er) ∧ St w [] w' [] := by
  refine Goal.enter (args := [.agg #[.int .i64 tp.n, vo, vl], vd, .int .i64 s, .int .i64 d, .func (.func 50) #[] #[]]) Try.func44 rfl Try.ntmps44 rfl (St.nil w) ?_
  repeat' (first
    | (refine Goal.loud (o := ⟨some 18, _, _, _, _, _⟩) rfl ?_; apply Loud.callN; exact rfl; exact rfl; exact rfl; exact rfl; exact T.bod_71; exact (fun w' H => path_ok (hT.keep H.mod) (hd.keep H.mod) ht hf hs hr); rintro ⟨l, p, v, er, A⟩ ⟨hl, hP⟩; dsimp only at hl hP ⊢)
    | (refine Goal.loud (o := ⟨some 25, _, _, _, _, _⟩) rfl ?_; refine Loud.call0 (fst := []) (cap := #[]) (vs := [_]) (args := [_]) rfl rfl rfl rfl T.bod_50 (fun w' H => use_reach v w') ?_)
    | (refine Goal.loud (o := ⟨some 5, _, _, _, _, _⟩) rfl ?_; first | refine Loud.boxA rfl rfl (fun b5 => ?_) | refine Loud.box1 rfl rfl rfl (fun b5 => ?_))
    | (apply G.move; exact rfl; exact rfl)
    | (apply G.assign; exact rfl; exact rfl)
    | refine Goal.seq (fun _ _ => ?_)
    | refine Goal.next (by assumption) ?_
    | refine Goal.lnil ?_
    | refine Goal.region ?_
    | refine Goal.skip ?_
    | refine Goal.block ?_
    | refine Goal.exit ?_
    | refine Goal.ret ?_
    | refine Goal.then_exit ?_
    | refine Goal.then_ret ?_
    | refine Goal.inBlock_exit ?_
    | refine Goal.inBlock_normal ?_
    | refine Goal.inBlock_ret ?_
    | refine Goal.inBlock_other rfl ?_
    | (apply Goal.condT; exact rfl)
    | (apply Goal.condF; exact rfl)
    | (refine Goal.condD rfl (fun hc => ?_) (fun hc => ?_) <;> first | (exfalso; omega) | contradiction | skip)
    | refine Goal.condB rfl (fun hc => ?_) (fun hc => ?_)
    | (apply G.load; exact rfl; exact rfl; first | exact ag3 T.agg_25 0 rfl rfl rfl rfl | exact ag3 T.agg_25 1 rfl rfl rfl rfl | exact ag3 T.agg_25 2 rfl rfl rfl rfl | exact ag3 T.agg_25 3 rfl rfl rfl rfl | exact ag3 T.agg_25 4 rfl rfl rfl rfl | exact ag3 T.agg_25 5 rfl rfl rfl rfl | exact ag3 T.agg_25 6 rfl rfl rfl rfl | exact ag3 T.agg_25 7 rfl rfl rfl rfl)
    | (apply G.eql; exact rfl; exact rfl; exact rfl)
    | (apply G.extract; exact rfl; exact rfl; exact rfl))
  all_goals
    refine Goal.done (vs := [_]) (by first | exact .inl rfl | exact .inr rfl) Try.results44 ⟨rfl, trivial⟩ rfl (fun w' H => ⟨⟨er⟩, hP.re hl, rfl, ⟨H.mod, trivial, List.nodup_nil, fun _ h => by cases h⟩⟩)
theorem reach_ok (hT : TopR w vo vl tp) (hd : RdV w vd (bools dn)) (ht : tp.Ok) (hf : Fit tp dn) (hs : 0 ≤ s ∧ s < tp.n) (hr : 0 ≤ d ∧ d < tp.n) :
    Calls Try.prog 21 #[.agg #[.int .i64 tp.n, vo, vl], vd, .int .i64 s, .int .i64 d] w fun e w' => ∃ x : RX, ReS tp dn s d x.er ∧ e = .returned (.bool (decide (x.er = 0))) ∧ St w [] w' [] := by
  refine Goal.enter (args := [.agg #[.int .i64 tp.n, vo, vl], vd, .int .i64 s, .int .i64 d]) Try.func21 rfl Try.ntmps21 rfl (St.nil w) ?_
  repeat' (first
    | (refine Goal.loud (o := ⟨some 13, _, _, _, _, _⟩) rfl ?_; apply Loud.callN; exact rfl; exact rfl; exact rfl; exact rfl; exact T.bod_44; exact (fun w' H => find_reach (hT.keep H.mod) (hd.keep H.mod) ht hf hs hr); rintro ⟨er⟩ hR; dsimp only at hR ⊢)
    | (refine Goal.loud (o := ⟨some 4, _, _, _, _, _⟩) rfl ?_; first | refine Loud.boxA rfl rfl (fun b4 => ?_) | refine Loud.box1 rfl rfl rfl (fun b4 => ?_))
    | (apply G.move; exact rfl; exact rfl)
    | (apply G.assign; exact rfl; exact rfl)
    | refine Goal.seq (fun _ _ => ?_)
    | refine Goal.next (by assumption) ?_
    | refine Goal.lnil ?_
    | refine Goal.region ?_
    | refine Goal.skip ?_
    | refine Goal.block ?_
    | refine Goal.exit ?_
    | refine Goal.ret ?_
    | refine Goal.then_exit ?_
    | refine Goal.then_ret ?_
    | refine Goal.inBlock_exit ?_
    | refine Goal.inBlock_normal ?_
    | refine Goal.inBlock_ret ?_
    | refine Goal.inBlock_other rfl ?_
    | (apply Goal.condT; exact rfl)
    | (apply Goal.condF; exact rfl)
    | (refine Goal.condD rfl (fun hc => ?_) (fun hc => ?_) <;> first | (exfalso; omega) | contradiction | skip)
    | refine Goal.condB rfl (fun hc => ?_) (fun hc => ?_)
    | (apply G.load; exact rfl; exact rfl; first | exact ag3 T.agg_25 0 rfl rfl rfl rfl | exact ag3 T.agg_25 1 rfl rfl rfl rfl | exact ag3 T.agg_25 2 rfl rfl rfl rfl | exact ag3 T.agg_25 3 rfl rfl rfl rfl | exact ag3 T.agg_25 4 rfl rfl rfl rfl | exact ag3 T.agg_25 5 rfl rfl rfl rfl | exact ag3 T.agg_25 6 rfl rfl rfl rfl | exact ag3 T.agg_25 7 rfl rfl rfl rfl)
    | (apply G.eql; exact rfl; exact rfl; exact rfl))
  refine Goal.done (vs := [_]) (by first | exact .inl rfl | exact .inr rfl) Try.results21 ⟨rfl, trivial⟩ rfl (fun w' H => ⟨⟨er⟩, hR, rfl, ⟨H.mod, trivial, List.nodup_nil, fun _ h => by cases h⟩⟩)
theorem reach_bad (hT : TopR w vo vl tp) (hd : RdV w vd (bools dn)) (hl : tp.ls.length ≤ 1048576) (hov : tp.ov.length ≤ 140737488355328) (hc : chk tp dn [s, d] ≠ 0) : Calls Try.prog 21 #[.agg #[.int .i64 tp.n, vo, vl], vd, .int .i64 s, .int .i64 d] w fun e w' => e = .returned (.bool false) ∧ Mod [] w w' := by
  have hbad := fun w' (hT : TopR w' vo vl tp) (hd : RdV w' vd (bools dn)) u => find_bad (s := s) (d := d) (u := u) hT hd hl hov hc
  generalize chk tp dn [s, d] = k at hbad hc
  refine Goal.enter (args := [.agg #[.int .i64 tp.n, vo, vl], vd, .int .i64 s, .int .i64 d]) Try.func21 rfl Try.ntmps21 rfl (St.nil w) ?_
  repeat' (first
    | (refine Goal.loud (o := ⟨some 13, _, _, _, _, _⟩) rfl ?_; apply Loud.call0; exact rfl; exact rfl; exact rfl; exact rfl; exact T.bod_44; exact (fun w' H => hbad w' (hT.keep H.mod) (hd.keep H.mod) _))
    | (refine Goal.loud (o := ⟨some 4, _, _, _, _, _⟩) rfl ?_; first | refine Loud.boxA rfl rfl (fun b4 => ?_) | refine Loud.box1 rfl rfl rfl (fun b4 => ?_))
    | (apply G.move; exact rfl; exact rfl)
    | (apply G.assign; exact rfl; exact rfl)
    | refine Goal.seq (fun _ _ => ?_)
    | refine Goal.next (by assumption) ?_
    | refine Goal.lnil ?_
    | refine Goal.region ?_
    | refine Goal.skip ?_
    | refine Goal.block ?_
    | refine Goal.exit ?_
    | refine Goal.ret ?_
    | refine Goal.then_exit ?_
    | refine Goal.then_ret ?_
    | refine Goal.inBlock_exit ?_
    | refine Goal.inBlock_normal ?_
    | refine Goal.inBlock_ret ?_
    | refine Goal.inBlock_other rfl ?_
    | (apply Goal.condT; exact rfl)
    | (apply Goal.condF; exact rfl)
    | (refine Goal.condD rfl (fun hc => ?_) (fun hc => ?_) <;> first | (exfalso; omega) | contradiction | skip)
    | refine Goal.condB rfl (fun hc => ?_) (fun hc => ?_)
    | (apply G.load; exact rfl; exact rfl; first | exact ag3 T.agg_25 0 rfl rfl rfl rfl | exact ag3 T.agg_25 1 rfl rfl rfl rfl | exact ag3 T.agg_25 2 rfl rfl rfl rfl | exact ag3 T.agg_25 3 rfl rfl rfl rfl | exact ag3 T.agg_25 4 rfl rfl rfl rfl | exact ag3 T.agg_25 5 rfl rfl rfl rfl | exact ag3 T.agg_25 6 rfl rfl rfl rfl | exact ag3 T.agg_25 7 rfl rfl rfl rfl)
    | (apply G.eql; exact rfl; exact rfl; exact rfl))
  refine Goal.done (vs := [_]) (by first | exact .inl rfl | exact .inr rfl) Try.results21 ⟨rfl, trivial⟩ rfl (fun w' H => ⟨by rw [decide_eq_false hc], H.mod⟩)
theorem r27path_ok (hT : TopR w vo vl tp) (hd : RdV w vd (bools dn)) (ht : tp.Ok) (hf : Fit tp dn) (hs : 0 ≤ s ∧ s < tp.n) (hr : 0 ≤ d ∧ d < tp.n) :
    Calls Try.prog 17 #[.agg #[.int .i64 tp.n, vo, vl], vd, .int .i64 s, .int .i64 d] w fun e w' => ∃ x : PR, (DL tp.n d (GD tp dn d) x.l ∧ PathS tp dn s d x.l x.p x.v x.er x.A) ∧ e = .returned (.tuple #[x.v, .int .i64 x.er]) ∧ St w [] w' x.A := by
  refine Goal.enter (args := [.agg #[.int .i64 tp.n, vo, vl], vd, .int .i64 s, .int .i64 d]) Try.func17 rfl Try.ntmps17 rfl (St.nil w) ?_
  repeat' (first
    | (refine Goal.loud (o := ⟨some 14, _, _, _, _, _⟩) rfl ?_; apply Loud.callN; exact rfl; exact rfl; exact rfl; exact rfl; exact T.bod_46; exact (fun w' H => rpath_ok (hT.keep H.mod) (hd.keep H.mod) ht hf hs hr); rintro ⟨l, p, v, er, A⟩ ⟨hl, hP⟩; dsimp only at hl hP ⊢)
    | (refine Goal.loud (o := ⟨some 4, _, _, _, _, _⟩) rfl ?_; first | refine Loud.boxA rfl rfl (fun b4 => ?_) | refine Loud.box1 rfl rfl rfl (fun b4 => ?_))
    | (apply G.move; exact rfl; exact rfl)
    | (apply G.assign; exact rfl; exact rfl)
    | refine Goal.seq (fun _ _ => ?_)
    | refine Goal.next (by assumption) ?_
    | refine Goal.lnil ?_
    | refine Goal.region ?_
    | refine Goal.skip ?_
    | refine Goal.block ?_
    | refine Goal.exit ?_
    | refine Goal.ret ?_
    | refine Goal.then_exit ?_
    | refine Goal.then_ret ?_
    | refine Goal.inBlock_exit ?_
    | refine Goal.inBlock_normal ?_
    | refine Goal.inBlock_ret ?_
    | refine Goal.inBlock_other rfl ?_
    | (apply Goal.condT; exact rfl)
    | (apply Goal.condF; exact rfl)
    | (refine Goal.condD rfl (fun hc => ?_) (fun hc => ?_) <;> first | (exfalso; omega) | contradiction | skip)
    | refine Goal.condB rfl (fun hc => ?_) (fun hc => ?_)
    | (apply G.load; exact rfl; exact rfl; first | exact ag3 T.agg_25 0 rfl rfl rfl rfl | exact ag3 T.agg_25 1 rfl rfl rfl rfl | exact ag3 T.agg_25 2 rfl rfl rfl rfl | exact ag3 T.agg_25 3 rfl rfl rfl rfl | exact ag3 T.agg_25 4 rfl rfl rfl rfl | exact ag3 T.agg_25 5 rfl rfl rfl rfl | exact ag3 T.agg_25 6 rfl rfl rfl rfl | exact ag3 T.agg_25 7 rfl rfl rfl rfl)
    | (apply G.extract; exact rfl; exact rfl; exact rfl))
  refine Goal.done (vs := [_, _]) (by first | exact .inl rfl | exact .inr rfl) Try.results17 ⟨rfl, rfl, trivial⟩ rfl (fun w' H => ⟨⟨l, p, _, er, A⟩, ⟨hl, hP⟩, rfl, St.drop1 H⟩)
theorem r27path_bad (hT : TopR w vo vl tp) (hd : RdV w vd (bools dn)) (hl : tp.ls.length ≤ 1048576) (hov : tp.ov.length ≤ 140737488355328) (hdl : dn.length ≤ 1048576) (hc : chk tp dn [s, d] ≠ 0) : Calls Try.prog 17 #[.agg #[.int .i64 tp.n, vo, vl], vd, .int .i64 s, .int .i64 d] w fun e w' => e = .returned (.tuple #[.slice none 0 0, .int .i64 (chk tp dn [s, d])]) ∧ Mod [] w w' := by
  have hbad := fun w' (hT : TopR w' vo vl tp) (hd : RdV w' vd (bools dn)) => rpath_bad (s := s) (d := d) hT hd hl hov hdl hc
  generalize chk tp dn [s, d] = k at hbad hc
  refine Goal.enter (args := [.agg #[.int .i64 tp.n, vo, vl], vd, .int .i64 s, .int .i64 d]) Try.func17 rfl Try.ntmps17 rfl (St.nil w) ?_
  repeat' (first
    | (refine Goal.loud (o := ⟨some 14, _, _, _, _, _⟩) rfl ?_; apply Loud.call0; exact rfl; exact rfl; exact rfl; exact rfl; exact T.bod_46; exact (fun w' H => hbad w' (hT.keep H.mod) (hd.keep H.mod)))
    | (refine Goal.loud (o := ⟨some 4, _, _, _, _, _⟩) rfl ?_; first | refine Loud.boxA rfl rfl (fun b4 => ?_) | refine Loud.box1 rfl rfl rfl (fun b4 => ?_))
    | (apply G.move; exact rfl; exact rfl)
    | (apply G.assign; exact rfl; exact rfl)
    | refine Goal.seq (fun _ _ => ?_)
    | refine Goal.next (by assumption) ?_
    | refine Goal.lnil ?_
    | refine Goal.region ?_
    | refine Goal.skip ?_
    | refine Goal.block ?_
    | refine Goal.exit ?_
    | refine Goal.ret ?_
    | refine Goal.then_exit ?_
    | refine Goal.then_ret ?_
    | refine Goal.inBlock_exit ?_
    | refine Goal.inBlock_normal ?_
    | refine Goal.inBlock_ret ?_
    | refine Goal.inBlock_other rfl ?_
    | (apply Goal.condT; exact rfl)
    | (apply Goal.condF; exact rfl)
    | (refine Goal.condD rfl (fun hc => ?_) (fun hc => ?_) <;> first | (exfalso; omega) | contradiction | skip)
    | refine Goal.condB rfl (fun hc => ?_) (fun hc => ?_)
    | (apply G.load; exact rfl; exact rfl; first | exact ag3 T.agg_25 0 rfl rfl rfl rfl | exact ag3 T.agg_25 1 rfl rfl rfl rfl | exact ag3 T.agg_25 2 rfl rfl rfl rfl | exact ag3 T.agg_25 3 rfl rfl rfl rfl | exact ag3 T.agg_25 4 rfl rfl rfl rfl | exact ag3 T.agg_25 5 rfl rfl rfl rfl | exact ag3 T.agg_25 6 rfl rfl rfl rfl | exact ag3 T.agg_25 7 rfl rfl rfl rfl)
    | (apply G.extract; exact rfl; exact rfl; exact rfl))
  refine Goal.done (vs := [_, _]) (by first | exact .inl rfl | exact .inr rfl) Try.results17 ⟨rfl, rfl, trivial⟩ rfl (fun w' H => ⟨rfl, H.mod⟩)
theorem r27extra_bad (hT : TopR w vo vl tp) (hd : RdV w vd (bools dn)) (hl : tp.ls.length ≤ 1048576) (hov : tp.ov.length ≤ 140737488355328) (hdl : dn.length ≤ 1048576) (hc : chk tp dn [s, d] ≠ 0) : Calls Try.prog 19 #[.agg #[.int .i64 tp.n, vo, vl], vd, .int .i64 s, .int .i64 d] w fun e w' => e = .returned (.tuple #[.int .i64 0, .int .i64 (chk tp dn [s, d])]) ∧ Mod [] w w' := by
  have hbad := fun w' (hT : TopR w' vo vl tp) (hd : RdV w' vd (bools dn)) => r27path_bad (s := s) (d := d) hT hd hl hov hdl hc
  generalize chk tp dn [s, d] = k at hbad hc
  refine Goal.enter (args := [.agg #[.int .i64 tp.n, vo, vl], vd, .int .i64 s, .int .i64 d]) Try.func19 rfl Try.ntmps19 rfl (St.nil w) ?_
  repeat' (first
    | (refine Goal.loud (o := ⟨some 21, _, _, _, _, _⟩) rfl ?_; apply Loud.call0; exact rfl; exact rfl; exact rfl; exact rfl; exact T.bod_17; exact (fun w' H => hbad w' (hT.keep H.mod) (hd.keep H.mod)))
    | (refine Goal.loud (o := ⟨some 4, _, _, _, _, _⟩) rfl ?_; first | refine Loud.boxA rfl rfl (fun b4 => ?_) | refine Loud.box1 rfl rfl rfl (fun b4 => ?_))
    | (apply G.move; exact rfl; exact rfl)
    | (apply G.assign; exact rfl; exact rfl)
    | refine Goal.seq (fun _ _ => ?_)
    | refine Goal.next (by assumption) ?_
    | refine Goal.lnil ?_
    | refine Goal.region ?_
    | refine Goal.skip ?_
    | refine Goal.block ?_
    | refine Goal.exit ?_
    | refine Goal.ret ?_
    | refine Goal.then_exit ?_
    | refine Goal.then_ret ?_
    | refine Goal.inBlock_exit ?_
    | refine Goal.inBlock_normal ?_
    | refine Goal.inBlock_ret ?_
    | refine Goal.inBlock_other rfl ?_
    | (apply Goal.condT; exact rfl)
    | (apply Goal.condF; exact rfl)
    | (refine Goal.condD rfl (fun hc => ?_) (fun hc => ?_) <;> first | (exfalso; omega) | contradiction | skip)
    | refine Goal.condB rfl (fun hc => ?_) (fun hc => ?_)
    | (apply G.load; exact rfl; exact rfl; first | exact LoadOK.one T.one_3 0 rfl rfl | exact LoadOK.one T.one_3 1 rfl rfl | exact LoadOK.one T.one_3 2 rfl rfl | exact LoadOK.one T.one_3 3 rfl rfl | exact LoadOK.one T.one_3 4 rfl rfl | exact LoadOK.one T.one_3 5 rfl rfl | exact LoadOK.one T.one_3 6 rfl rfl | exact LoadOK.one T.one_3 7 rfl rfl | exact ag3 T.agg_25 0 rfl rfl rfl rfl | exact ag3 T.agg_25 1 rfl rfl rfl rfl | exact ag3 T.agg_25 2 rfl rfl rfl rfl | exact ag3 T.agg_25 3 rfl rfl rfl rfl | exact ag3 T.agg_25 4 rfl rfl rfl rfl | exact ag3 T.agg_25 5 rfl rfl rfl rfl | exact ag3 T.agg_25 6 rfl rfl rfl rfl | exact ag3 T.agg_25 7 rfl rfl rfl rfl)
    | (apply G.lss; exact rfl; exact rfl; exact rfl)
    | (apply G.neq; exact rfl; exact rfl; exact rfl)
    | (apply G.add; exact rfl; exact rfl; exact rfl; exact IntWalk.i64_in _ (by omega))
    | (apply G.sub; exact rfl; exact rfl; exact rfl; exact IntWalk.i64_in _ (by omega))
    | (apply G.extract; exact rfl; exact rfl; exact rfl)
    | (apply G.len; exact rfl; exact rfl; exact T.slc_30)
    | (refine G.indexAddr1 rfl T.slc_30 T.sz_3 rfl rfl _ rfl (by omega) ?_)
    | (refine G.indexAddr1 rfl T.slc_30 T.sz_3 rfl rfl _ (Int.toNat_of_nonneg (by omega)).symm (by omega) ?_))
  refine Goal.done (vs := [_, _]) (by first | exact .inl rfl | exact .inr rfl) Try.results19 ⟨rfl, rfl, trivial⟩ rfl (fun w' H => ⟨rfl, H.mod⟩)
set_option maxHeartbeats 8000000 in
theorem r27extra_ok (hT : TopR w vo vl tp) (hd : RdV w vd (bools dn)) (ht : tp.Ok) (hf : Fit tp dn) (hs : 0 ≤ s ∧ s < tp.n) (hr : 0 ≤ d ∧ d < tp.n) :
    Calls Try.prog 19 #[.agg #[.int .i64 tp.n, vo, vl], vd, .int .i64 s, .int .i64 d] w fun e w' => ∃ x : EX, ExS tp dn s d x.ex x.er ∧ e = .returned (.tuple #[.int .i64 x.ex, .int .i64 x.er]) ∧ St w [] w' [] := by
  have hn := ht.n
  have hln := ht.ln
  refine Goal.enter (args := [.agg #[.int .i64 tp.n, vo, vl], vd, .int .i64 s, .int .i64 d]) Try.func19 rfl Try.ntmps19 rfl (St.nil w) ?_
  repeat' (first
    | (refine Goal.loud (o := ⟨some 21, _, _, _, _, _⟩) rfl ?_; apply Loud.callN; exact rfl; exact rfl; exact rfl; exact rfl; exact T.bod_17; exact (fun w' H => r27path_ok (hT.keep H.mod) (hd.keep H.mod) ht hf hs hr); rintro ⟨l, p, v, er, A⟩ ⟨hl, hP⟩; dsimp only at hl hP ⊢; obtain ⟨av, cv, rfl⟩ := hP.shape)
    | (refine Goal.loud (o := ⟨some 4, _, _, _, _, _⟩) rfl ?_; first | refine Loud.boxA rfl rfl (fun b4 => ?_) | refine Loud.box1 rfl rfl rfl (fun b4 => ?_))
    | (apply G.move; exact rfl; exact rfl)
    | (apply G.assign; exact rfl; exact rfl)
    | refine Goal.seq (fun _ _ => ?_)
    | refine Goal.next (by assumption) ?_
    | refine Goal.lnil ?_
    | refine Goal.region ?_
    | refine Goal.skip ?_
    | refine Goal.block ?_
    | refine Goal.exit ?_
    | refine Goal.ret ?_
    | refine Goal.then_exit ?_
    | refine Goal.then_ret ?_
    | refine Goal.inBlock_exit ?_
    | refine Goal.inBlock_normal ?_
    | refine Goal.inBlock_ret ?_
    | refine Goal.inBlock_other rfl ?_
    | (apply Goal.condT; exact rfl)
    | (apply Goal.condF; exact rfl)
    | (refine Goal.condD rfl (fun hc => ?_) (fun hc => ?_) <;> first | (exfalso; omega) | contradiction | skip)
    | refine Goal.condB rfl (fun hc => ?_) (fun hc => ?_)
    | (apply G.load; exact rfl; exact rfl; first | exact LoadOK.one T.one_3 0 rfl rfl | exact LoadOK.one T.one_3 1 rfl rfl | exact LoadOK.one T.one_3 2 rfl rfl | exact LoadOK.one T.one_3 3 rfl rfl | exact LoadOK.one T.one_3 4 rfl rfl | exact LoadOK.one T.one_3 5 rfl rfl | exact LoadOK.one T.one_3 6 rfl rfl | exact LoadOK.one T.one_3 7 rfl rfl | exact ag3 T.agg_25 0 rfl rfl rfl rfl | exact ag3 T.agg_25 1 rfl rfl rfl rfl | exact ag3 T.agg_25 2 rfl rfl rfl rfl | exact ag3 T.agg_25 3 rfl rfl rfl rfl | exact ag3 T.agg_25 4 rfl rfl rfl rfl | exact ag3 T.agg_25 5 rfl rfl rfl rfl | exact ag3 T.agg_25 6 rfl rfl rfl rfl | exact ag3 T.agg_25 7 rfl rfl rfl rfl)
    | (apply G.lss; exact rfl; exact rfl; exact rfl)
    | (apply G.neq; exact rfl; exact rfl; exact rfl)
    | (apply G.add; exact rfl; exact rfl; exact rfl; exact IntWalk.i64_in _ (by omega))
    | (apply G.sub; exact rfl; exact rfl; exact rfl; exact IntWalk.i64_in _ (by omega))
    | (apply G.extract; exact rfl; exact rfl; exact rfl)
    | (apply G.len; exact rfl; exact rfl; exact T.slc_30)
    | (refine G.indexAddr1 rfl T.slc_30 T.sz_3 rfl rfl _ rfl (by omega) ?_)
    | (refine G.indexAddr1 rfl T.slc_30 T.sz_3 rfl rfl _ (Int.toNat_of_nonneg (by omega)).symm (by omega) ?_))
  · refine Goal.done (vs := [_, _]) (by first | exact .inl rfl | exact .inr rfl) Try.results19 ⟨rfl, rfl, trivial⟩ rfl (fun w' H => ⟨⟨0, er⟩, ⟨l, hl, .inl (by rcases hP with ⟨h1, _, _, h2, _⟩ | ⟨_, h2, _⟩; exact ⟨h1, h2, rfl⟩; exact absurd h2 hc)⟩, rfl, ⟨H.mod, trivial, List.nodup_nil, fun _ h => by cases h⟩⟩)
  obtain ⟨h0, hfp, hS⟩ : 0 ≤ ia l s ∧ FP tp dn d (ia l) s p ∧ Sl (.slice av p.length cv) 3 1 p.length (ints p) A := by
    rcases hP with ⟨_, _, _, he, _⟩ | ⟨h0, _, hfp, hS⟩
    · omega
    · exact ⟨h0, hfp, hS⟩
  have hpl := FP.len ht hfp h0
  have hbl := Bell.bound (GD.ok ht) (GD.cap ht) (by decide) hl.bell s hs.1 hs.2
  have hsum := FP.sum hl.bell.root hfp
  refine Goal.loopP (X := EI) (fun x => [(2, .int .i64 s), (3, .int .i64 d), (4, .pointer (some ⟨b4, 0, none⟩)), (10, .slice av p.length cv), (12, .int .i64 x.c), (13, .int .i64 x.i)])
    (fun x => (b4, .cells #[.int .i64 tp.n, vo, vl] 25) :: A)
    (fun x => (0 ≤ x.i ∧ x.i ≤ p.length) ∧ (0 ≤ x.c ∧ x.c ≤ 65535 * x.i) ∧ x.c = sumC tp (p.take x.i.toNat)) (fun x => (p.length - x.i).toNat) ⟨0, 0⟩ ⟨rfl, rfl, rfl, rfl, rfl, rfl, trivial⟩ (fun _ h => h) ⟨by dsimp only; omega, by dsimp only; omega, rfl⟩ ?_
  rintro ⟨i, c⟩ ⟨hi, hc1, hcs⟩
  dsimp only at hi hc1 hcs ⊢
  by_cases h : i < p.length
  · have har := FP.arc hfp hi.1 h
    obtain ⟨_, _, hco, _⟩ := ht.arc har
    have hnx : c + tp.co (ia p i) = sumC tp (p.take (i + 1).toNat) := by rw [take_next hi.1 h, sumC_app, hcs]
    obtain ⟨bp, restp, capp, e, rfl, _, hcap1, hcap2⟩ := hS.pos (by omega)
    injection e with e1 e2 e3
    subst e1 e3
    repeat' (first
      | (refine Goal.drawAll (id := 8) 8 T.mixed ?_; all_goals ((refine Goal.takeP (listed' := #[Ya,No,No,No,No,No,No,No,No]) 0 ⟨rfl, by kernel_rfl, by kernel_rfl, by kernel_rfl, by kernel_rfl⟩ rfl (fun _ _ _ _ h => h) (by intro _; exact Run.move rfl) ?_)); all_goals ((refine Goal.takeP (listed' := #[Ya,No,Ya,No,No,No,No,No,No]) 2 ⟨rfl, by kernel_rfl, by kernel_rfl, by kernel_rfl, by kernel_rfl⟩ rfl (fun _ _ _ _ h => h) (by intro _; exact Run.move rfl) ?_)); all_goals ((refine Goal.takeP (listed' := #[Ya,No,Ya,Ya,No,No,No,No,No]) 3 ⟨rfl, by kernel_rfl, by kernel_rfl, by kernel_rfl, by kernel_rfl⟩ rfl (fun _ _ _ _ h => h) (by intro _; exact Run.move rfl) ?_)); all_goals ((refine Goal.takeP (listed' := #[Ya,No,Ya,Ya,Ya,No,No,No,No]) 4 ⟨rfl, by kernel_rfl, by kernel_rfl, by kernel_rfl, by kernel_rfl⟩ rfl (fun _ _ _ _ h => h) (by intro _; first | exact Run.indexAddr1 T.slc_30 T.sz_3 rfl rfl rfl (by omega) | exact Run.indexAddr1 T.slc_30 T.sz_3 rfl rfl (Int.toNat_of_nonneg (by omega)).symm (by omega)) ?_)); all_goals ((refine Goal.take (listed' := #[Ya,Ya,Ya,Ya,Ya,No,No,No,No]) 1 ⟨rfl, by kernel_rfl, by kernel_rfl, by kernel_rfl, by kernel_rfl, by kernel_rfl⟩ rfl (by (first | exact s0 | exact s1 | exact s2 | exact s3 | exact sd | exact sa | exact sn (by simp))) (fun _ _ _ _ h => h) (by (apply Run.load; exact rfl; first | exact LoadOK.iaMe (b := bp) (l := p) (rest := restp) (E := 3) (i := i) (x := ia p i) T.one_3 (by simp) (by omega) rfl | exact ag3 T.agg_25 0 rfl rfl rfl rfl | exact ag3 T.agg_25 1 rfl rfl rfl rfl | exact ag3 T.agg_25 2 rfl rfl rfl rfl | exact ag3 T.agg_25 3 rfl rfl rfl rfl | exact ag3 T.agg_25 4 rfl rfl rfl rfl | exact ag3 T.agg_25 5 rfl rfl rfl rfl | exact ag3 T.agg_25 6 rfl rfl rfl rfl | exact ag3 T.agg_25 7 rfl rfl rfl rfl)) ?_)); all_goals ((refine Goal.take (listed' := #[Ya,Ya,Ya,Ya,Ya,Ya,No,No,No]) 5 ⟨rfl, by kernel_rfl, by kernel_rfl, by kernel_rfl, by kernel_rfl, by kernel_rfl⟩ rfl (by (first | exact s0 | exact s1 | exact s2 | exact s3 | exact sd | exact sa | exact sn (by simp))) (fun _ _ _ _ h => h) (by (apply Run.load; exact rfl; first | exact LoadOK.iaMe (b := bp) (l := p) (rest := restp) (E := 3) (i := i) (x := ia p i) T.one_3 (by simp) (by omega) rfl | exact LoadOK.one T.one_3 0 rfl rfl | exact LoadOK.one T.one_3 1 rfl rfl | exact LoadOK.one T.one_3 2 rfl rfl | exact LoadOK.one T.one_3 3 rfl rfl | exact LoadOK.one T.one_3 4 rfl rfl | exact LoadOK.one T.one_3 5 rfl rfl | exact LoadOK.one T.one_3 6 rfl rfl | exact LoadOK.one T.one_3 7 rfl rfl)) ?_)); all_goals (refine Goal.ready1 (i := 6) (by kernel_rfl) ?_); all_goals ((refine Goal.up (i := 6) (listed' := #[Ya,Ya,Ya,Ya,Ya,Ya,Ya,No,No]) rfl (by kernel_rfl) ?_; (apply Loud.call0; exact rfl; exact rfl; exact rfl; exact rfl; exact T.bod_37; exact (fun w' H => rcost_ok (hT.keep H.mod) ht har)); first | refine Goal.tail rfl ?_ | refine Goal.kept (by (first | exact s0 | exact s1 | exact s2 | exact s3 | exact sd | exact sa | exact sn (by simp))) ?_)); all_goals ((refine Goal.takeP (listed' := #[Ya,Ya,Ya,Ya,Ya,Ya,Ya,Ya,No]) 7 ⟨rfl, by kernel_rfl, by kernel_rfl, by kernel_rfl, by kernel_rfl⟩ rfl (fun _ _ _ _ h => h) (by intro _; (apply Run.add; exact rfl; exact rfl; exact IntWalk.i64_in _ (by omega))) ?_)); all_goals ((refine Goal.takeP (listed' := #[Ya,Ya,Ya,Ya,Ya,Ya,Ya,Ya,Ya]) 8 ⟨rfl, by kernel_rfl, by kernel_rfl, by kernel_rfl, by kernel_rfl⟩ rfl (fun _ _ _ _ h => h) (by intro _; exact Run.assign rfl) ?_)); all_goals (refine Goal.allUp (by kernel_rfl) ?_))
      | (refine Goal.loud (o := ⟨some 39, _, _, _, _, _⟩) rfl ?_; apply Loud.call0; exact rfl; exact rfl; exact rfl; exact rfl; exact T.bod_37; exact (fun w' H => rcost_ok (hT.keep H.mod) ht har))
      | (refine Goal.loud (o := ⟨some 4, _, _, _, _, _⟩) rfl ?_; first | refine Loud.boxA rfl rfl (fun b4 => ?_) | refine Loud.box1 rfl rfl rfl (fun b4 => ?_))
      | (apply G.move; exact rfl; exact rfl)
      | (apply G.assign; exact rfl; exact rfl)
      | refine Goal.seq (fun _ _ => ?_)
      | refine Goal.next (by assumption) ?_
      | refine Goal.lnil ?_
      | refine Goal.region ?_
      | refine Goal.skip ?_
      | refine Goal.block ?_
      | refine Goal.exit ?_
      | refine Goal.ret ?_
      | refine Goal.then_exit ?_
      | refine Goal.then_ret ?_
      | refine Goal.inBlock_exit ?_
      | refine Goal.inBlock_normal ?_
      | refine Goal.inBlock_ret ?_
      | refine Goal.inBlock_other rfl ?_
      | (apply Goal.condT; exact rfl)
      | (apply Goal.condF; exact rfl)
      | (refine Goal.condD rfl (fun hc => ?_) (fun hc => ?_) <;> first | (exfalso; omega) | contradiction | skip)
      | refine Goal.condB rfl (fun hc => ?_) (fun hc => ?_)
      | (apply G.load; exact rfl; exact rfl; first | exact LoadOK.iaMe (b := bp) (l := p) (rest := restp) (E := 3) (i := i) (x := ia p i) T.one_3 (by simp) (by omega) rfl | exact LoadOK.one T.one_3 0 rfl rfl | exact LoadOK.one T.one_3 1 rfl rfl | exact LoadOK.one T.one_3 2 rfl rfl | exact LoadOK.one T.one_3 3 rfl rfl | exact LoadOK.one T.one_3 4 rfl rfl | exact LoadOK.one T.one_3 5 rfl rfl | exact LoadOK.one T.one_3 6 rfl rfl | exact LoadOK.one T.one_3 7 rfl rfl | exact ag3 T.agg_25 0 rfl rfl rfl rfl | exact ag3 T.agg_25 1 rfl rfl rfl rfl | exact ag3 T.agg_25 2 rfl rfl rfl rfl | exact ag3 T.agg_25 3 rfl rfl rfl rfl | exact ag3 T.agg_25 4 rfl rfl rfl rfl | exact ag3 T.agg_25 5 rfl rfl rfl rfl | exact ag3 T.agg_25 6 rfl rfl rfl rfl | exact ag3 T.agg_25 7 rfl rfl rfl rfl)
      | (apply G.lss; exact rfl; exact rfl; exact rfl)
      | (apply G.neq; exact rfl; exact rfl; exact rfl)
      | (apply G.add; exact rfl; exact rfl; exact rfl; exact IntWalk.i64_in _ (by omega))
      | (apply G.sub; exact rfl; exact rfl; exact rfl; exact IntWalk.i64_in _ (by omega))
      | (apply G.extract; exact rfl; exact rfl; exact rfl)
      | (apply G.len; exact rfl; exact rfl; exact T.slc_30)
      | (refine G.indexAddr1 rfl T.slc_30 T.sz_3 rfl rfl _ rfl (by omega) ?_)
      | (refine G.indexAddr1 rfl T.slc_30 T.sz_3 rfl rfl _ (Int.toNat_of_nonneg (by omega)).symm (by omega) ?_))
    refine Goal.again ⟨i + 1, c + tp.co (ia p i)⟩ ⟨by dsimp only; omega, by dsimp only; omega, hnx⟩ (by dsimp only; omega) ⟨rfl, rfl, rfl, rfl, rfl, rfl, trivial⟩ (fun _ h => h)
  · obtain rfl : i = p.length := by omega
    rw [Int.toNat_natCast, List.take_length, hsum] at hcs
    subst hcs
    repeat' (first
      | (refine Goal.loud (o := ⟨some 44, _, _, _, _, _⟩) rfl ?_; apply Loud.callN; exact rfl; exact rfl; exact rfl; exact rfl; exact T.bod_24; exact (fun w' H => rdist_ok (dn := []) (hT.keep H.mod) (RdV.nil w') ht (.inl rfl) hr); rintro ⟨bm, m⟩ hm; dsimp only at hm ⊢; have hml := hm.len; have hmn := hm.bell.neg s hs.1 hs.2; have hmb := Bell.bound (GD.ok ht) (GD.cap ht) (by decide) hm.bell s hs.1 hs.2)
      | (refine Goal.loud (o := ⟨some 4, _, _, _, _, _⟩) rfl ?_; first | refine Loud.boxA rfl rfl (fun b4 => ?_) | refine Loud.box1 rfl rfl rfl (fun b4 => ?_))
      | (apply G.move; exact rfl; exact rfl)
      | (apply G.assign; exact rfl; exact rfl)
      | refine Goal.seq (fun _ _ => ?_)
      | refine Goal.next (by assumption) ?_
      | refine Goal.lnil ?_
      | refine Goal.region ?_
      | refine Goal.skip ?_
      | refine Goal.block ?_
      | refine Goal.exit ?_
      | refine Goal.ret ?_
      | refine Goal.then_exit ?_
      | refine Goal.then_ret ?_
      | refine Goal.inBlock_exit ?_
      | refine Goal.inBlock_normal ?_
      | refine Goal.inBlock_ret ?_
      | refine Goal.inBlock_other rfl ?_
      | (apply Goal.condT; exact rfl)
      | (apply Goal.condF; exact rfl)
      | (refine Goal.condD rfl (fun hc => ?_) (fun hc => ?_) <;> first | (exfalso; omega) | contradiction | skip)
      | refine Goal.condB rfl (fun hc => ?_) (fun hc => ?_)
      | (apply G.load; exact rfl; exact rfl; first | exact LoadOK.iaM (b := bm) (l := m) (E := 3) (i := s) (x := ia m s) T.one_3 (by simp) (by omega) rfl | exact LoadOK.one T.one_3 0 rfl rfl | exact LoadOK.one T.one_3 1 rfl rfl | exact LoadOK.one T.one_3 2 rfl rfl | exact LoadOK.one T.one_3 3 rfl rfl | exact LoadOK.one T.one_3 4 rfl rfl | exact LoadOK.one T.one_3 5 rfl rfl | exact LoadOK.one T.one_3 6 rfl rfl | exact LoadOK.one T.one_3 7 rfl rfl | exact ag3 T.agg_25 0 rfl rfl rfl rfl | exact ag3 T.agg_25 1 rfl rfl rfl rfl | exact ag3 T.agg_25 2 rfl rfl rfl rfl | exact ag3 T.agg_25 3 rfl rfl rfl rfl | exact ag3 T.agg_25 4 rfl rfl rfl rfl | exact ag3 T.agg_25 5 rfl rfl rfl rfl | exact ag3 T.agg_25 6 rfl rfl rfl rfl | exact ag3 T.agg_25 7 rfl rfl rfl rfl)
      | (apply G.lss; exact rfl; exact rfl; exact rfl)
      | (apply G.neq; exact rfl; exact rfl; exact rfl)
      | (apply G.add; exact rfl; exact rfl; exact rfl; exact IntWalk.i64_in _ (by omega))
      | (apply G.sub; exact rfl; exact rfl; exact rfl; exact IntWalk.i64_in _ (by omega))
      | (apply G.extract; exact rfl; exact rfl; exact rfl)
      | (apply G.len; exact rfl; exact rfl; exact T.slc_30)
      | (refine G.indexAddr1 rfl T.slc_30 T.sz_3 rfl rfl _ rfl (by omega) ?_)
      | (refine G.indexAddr1 rfl T.slc_30 T.sz_3 rfl rfl _ (Int.toNat_of_nonneg (by omega)).symm (by omega) ?_))
    refine Goal.done (vs := [_, _]) (by first | exact .inl rfl | exact .inr rfl) Try.results19 ⟨rfl, rfl, trivial⟩ rfl (fun w' H => ⟨⟨ia l s - ia m s, 0⟩, ⟨l, hl, .inr ⟨h0, rfl, m, hm, rfl⟩⟩, rfl, ⟨H.mod, trivial, List.nodup_nil, fun _ h => by cases h⟩⟩)
end
end Go.Proofs.Ytldoplehchngfaa
