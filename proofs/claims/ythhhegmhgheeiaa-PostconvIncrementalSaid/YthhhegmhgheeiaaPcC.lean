/- Package postconv: Reaches, Safe; package waypointref27: Path, Extra, Safe. -/
import Derived.Test.YthhhegmhgheeiaaPcB
namespace Go.Proofs.Ythhhegmhgheeiaa
open Go.Wf
set_option linter.unusedVariables false
/-- Whether a path is found. -/
def ReS (tp : Top) (dn : List Bool) (s d er : Int) : Prop := ∃ l, DL tp.n d (GD tp dn d) l ∧ ((ia l s < 0 ∧ er = 11) ∨ (0 ≤ ia l s ∧ er = 0))
/-- Whether a node is safe. -/
def SaS (tp : Top) (dn : List Bool) (gone d : Int) (r : Bool) : Prop := ∃ m l, DL tp.n d (GD tp [] d) m ∧ DL tp.n d (GD tp dn d) l ∧ (r = true ↔ ∀ x : Int, 0 ≤ x → x < tp.n → x ≠ gone → 0 ≤ ia m x → 0 ≤ ia l x)
theorem SaS.one {tp : Top} {dn : List Bool} {g d : Int} {r r' : Bool} (ht : tp.Ok) (h : SaS tp dn g d r) (h' : SaS tp dn g d r') : r = r' := by
  obtain ⟨m, l, hm, hl, h⟩ := h
  obtain ⟨m', l', hm', hl', h'⟩ := h'
  obtain rfl := DL.one (GD.ok ht) hm hm'
  obtain rfl := DL.one (GD.ok ht) hl hl'
  exact Bool.eq_iff_iff.2 (h.trans h'.symm)
structure RX where
  (er : Int)
section
variable {w : World} {tp : Top} {vo vl vd : Value} {dn : List Bool} {s d : Int}
theorem PathS.re {l p : List Int} {v : Value} {er : Int} {A : List Blk} (hl : DL tp.n d (GD tp dn d) l) (h : PathS tp dn s d l p v er A) : ReS tp dn s d er := by
  refine ⟨l, hl, ?_⟩
  rcases h with ⟨h, _, _, he, _⟩ | ⟨h, he, _⟩
  · exact .inl ⟨h, he⟩
  · exact .inr ⟨h, he⟩
theorem use_reach (v : Value) (w : World) : Calls Try.prog 77 #[v] w fun e w' => e = .returned (.tuple #[]) ∧ Mod [] w w' := by
  refine Goal.enter (args := [v]) Try.func77 rfl Try.ntmps77 rfl (St.nil w) ?_
  repeat' (first | refine Goal.seq (fun _ _ => ?_) | refine Goal.next (by assumption) ?_ | refine Goal.lnil ?_ | refine Goal.region ?_ | refine Goal.skip ?_ | refine Goal.block ?_ | refine Goal.exit ?_ | refine Goal.ret ?_ | refine Goal.then_exit ?_ | refine Goal.then_ret ?_ | refine Goal.inBlock_exit ?_ | refine Goal.inBlock_normal ?_ | refine Goal.inBlock_ret ?_ | refine Goal.inBlock_other rfl ?_ | (apply Goal.condT; exact rfl) | (apply Goal.condF; exact rfl) | (refine Goal.condD rfl (fun hc => ?_) (fun hc => ?_) <;> first | (exfalso; omega) | contradiction | skip) | refine Goal.condB rfl (fun hc => ?_) (fun hc => ?_))
  refine Goal.done (vs := []) (by first | exact .inl rfl | exact .inr rfl) Try.results77 trivial rfl (fun w' H => ⟨rfl, H.mod⟩)
theorem find_reach (hT : TopR w vo vl tp) (hd : RdV w vd (bools dn)) (ht : tp.Ok) (hf : Fit tp dn) (hs : 0 ≤ s ∧ s < tp.n) (hr : 0 ≤ d ∧ d < tp.n) :
    Calls Try.prog 62 #[.agg #[.int .i64 tp.n, vo, vl], vd, .int .i64 s, .int .i64 d, .func (.func 77) #[] #[]] w fun e w' => ∃ x : RX, ReS tp dn s d x.er ∧ e = .returned (.int .i64 x.er) ∧ St w [] w' [] := by
  refine Goal.enter (args := [.agg #[.int .i64 tp.n, vo, vl], vd, .int .i64 s, .int .i64 d, .func (.func 77) #[] #[]]) Try.func62 rfl Try.ntmps62 rfl (St.nil w) ?_
  repeat' (first | (refine Goal.loud (o := ⟨some 18, _, _, _, _, _⟩) rfl ?_; apply Loud.callN; exact rfl; exact rfl; exact rfl; exact rfl; exact T.bod_79; exact (fun w' H => path_ok (hT.keep H.mod) (hd.keep H.mod) ht hf hs hr); rintro ⟨l, p, v, er, A⟩ ⟨hl, hP⟩; dsimp only at hl hP ⊢) | (refine Goal.loud (o := ⟨some 25, _, _, _, _, _⟩) rfl ?_; refine Loud.call0 (fst := []) (cap := #[]) (vs := [_]) (args := [_]) rfl rfl rfl rfl T.bod_77 (fun w' H => use_reach v w') ?_) | (refine Goal.loud (o := ⟨some 5, _, _, _, _, _⟩) rfl ?_; first | refine Loud.boxA rfl rfl (fun b5 => ?_) | refine Loud.box1 rfl rfl rfl (fun b5 => ?_)) | (apply G.move; exact rfl; exact rfl) | (apply G.assign; exact rfl; exact rfl) | refine Goal.seq (fun _ _ => ?_) | refine Goal.next (by assumption) ?_ | refine Goal.lnil ?_ | refine Goal.region ?_ | refine Goal.skip ?_ | refine Goal.block ?_ | refine Goal.exit ?_ | refine Goal.ret ?_ | refine Goal.then_exit ?_ | refine Goal.then_ret ?_ | refine Goal.inBlock_exit ?_ | refine Goal.inBlock_normal ?_ | refine Goal.inBlock_ret ?_ | refine Goal.inBlock_other rfl ?_ | (apply Goal.condT; exact rfl) | (apply Goal.condF; exact rfl) | (refine Goal.condD rfl (fun hc => ?_) (fun hc => ?_) <;> first | (exfalso; omega) | contradiction | skip) | refine Goal.condB rfl (fun hc => ?_) (fun hc => ?_) | (apply G.load; exact rfl; exact rfl; first | exact ag3 T.agg_25 0 rfl rfl rfl rfl | exact ag3 T.agg_25 1 rfl rfl rfl rfl | exact ag3 T.agg_25 2 rfl rfl rfl rfl | exact ag3 T.agg_25 3 rfl rfl rfl rfl | exact ag3 T.agg_25 4 rfl rfl rfl rfl) | (apply G.eql; exact rfl; exact rfl; exact rfl) | (apply G.extract; exact rfl; exact rfl; exact rfl))
  all_goals
    refine Goal.done (vs := [_]) (by first | exact .inl rfl | exact .inr rfl) Try.results62 ⟨rfl, trivial⟩ rfl (fun w' H => ⟨⟨er⟩, hP.re hl, rfl, ⟨H.mod, trivial, List.nodup_nil, fun _ h => by cases h⟩⟩)
theorem reach_ok (hT : TopR w vo vl tp) (hd : RdV w vd (bools dn)) (ht : tp.Ok) (hf : Fit tp dn) (hs : 0 ≤ s ∧ s < tp.n) (hr : 0 ≤ d ∧ d < tp.n) :
    Calls Try.prog 60 #[.agg #[.int .i64 tp.n, vo, vl], vd, .int .i64 s, .int .i64 d] w fun e w' => ∃ x : RX, ReS tp dn s d x.er ∧ e = .returned (.bool (decide (x.er = 0))) ∧ St w [] w' [] := by
  refine Goal.enter (args := [.agg #[.int .i64 tp.n, vo, vl], vd, .int .i64 s, .int .i64 d]) Try.func60 rfl Try.ntmps60 rfl (St.nil w) ?_
  repeat' (first | (refine Goal.loud (o := ⟨some 13, _, _, _, _, _⟩) rfl ?_; apply Loud.callN; exact rfl; exact rfl; exact rfl; exact rfl; exact T.bod_62; exact (fun w' H => find_reach (hT.keep H.mod) (hd.keep H.mod) ht hf hs hr); rintro ⟨er⟩ hR; dsimp only at hR ⊢) | (refine Goal.loud (o := ⟨some 4, _, _, _, _, _⟩) rfl ?_; first | refine Loud.boxA rfl rfl (fun b4 => ?_) | refine Loud.box1 rfl rfl rfl (fun b4 => ?_)) | (apply G.move; exact rfl; exact rfl) | (apply G.assign; exact rfl; exact rfl) | refine Goal.seq (fun _ _ => ?_) | refine Goal.next (by assumption) ?_ | refine Goal.lnil ?_ | refine Goal.region ?_ | refine Goal.skip ?_ | refine Goal.block ?_ | refine Goal.exit ?_ | refine Goal.ret ?_ | refine Goal.then_exit ?_ | refine Goal.then_ret ?_ | refine Goal.inBlock_exit ?_ | refine Goal.inBlock_normal ?_ | refine Goal.inBlock_ret ?_ | refine Goal.inBlock_other rfl ?_ | (apply Goal.condT; exact rfl) | (apply Goal.condF; exact rfl) | (refine Goal.condD rfl (fun hc => ?_) (fun hc => ?_) <;> first | (exfalso; omega) | contradiction | skip) | refine Goal.condB rfl (fun hc => ?_) (fun hc => ?_) | (apply G.load; exact rfl; exact rfl; first | exact ag3 T.agg_25 0 rfl rfl rfl rfl | exact ag3 T.agg_25 1 rfl rfl rfl rfl | exact ag3 T.agg_25 2 rfl rfl rfl rfl | exact ag3 T.agg_25 3 rfl rfl rfl rfl | exact ag3 T.agg_25 4 rfl rfl rfl rfl) | (apply G.eql; exact rfl; exact rfl; exact rfl))
  refine Goal.done (vs := [_]) (by first | exact .inl rfl | exact .inr rfl) Try.results60 ⟨rfl, trivial⟩ rfl (fun w' H => ⟨⟨er⟩, hR, rfl, ⟨H.mod, trivial, List.nodup_nil, fun _ h => by cases h⟩⟩)
theorem reach_bad (hT : TopR w vo vl tp) (hd : RdV w vd (bools dn)) (hl : tp.ls.length ≤ 1048576) (hov : tp.ov.length ≤ 140737488355328) (hc : chk tp dn [s, d] ≠ 0) : Calls Try.prog 60 #[.agg #[.int .i64 tp.n, vo, vl], vd, .int .i64 s, .int .i64 d] w fun e w' => e = .returned (.bool false) ∧ Mod [] w w' := by
  have hbad := fun w' (hT : TopR w' vo vl tp) (hd : RdV w' vd (bools dn)) u => find_bad (s := s) (d := d) (u := u) hT hd hl hov hc
  generalize chk tp dn [s, d] = k at hbad hc
  refine Goal.enter (args := [.agg #[.int .i64 tp.n, vo, vl], vd, .int .i64 s, .int .i64 d]) Try.func60 rfl Try.ntmps60 rfl (St.nil w) ?_
  repeat' (first | (refine Goal.loud (o := ⟨some 13, _, _, _, _, _⟩) rfl ?_; apply Loud.call0; exact rfl; exact rfl; exact rfl; exact rfl; exact T.bod_62; exact (fun w' H => hbad w' (hT.keep H.mod) (hd.keep H.mod) _)) | (refine Goal.loud (o := ⟨some 4, _, _, _, _, _⟩) rfl ?_; first | refine Loud.boxA rfl rfl (fun b4 => ?_) | refine Loud.box1 rfl rfl rfl (fun b4 => ?_)) | (apply G.move; exact rfl; exact rfl) | (apply G.assign; exact rfl; exact rfl) | refine Goal.seq (fun _ _ => ?_) | refine Goal.next (by assumption) ?_ | refine Goal.lnil ?_ | refine Goal.region ?_ | refine Goal.skip ?_ | refine Goal.block ?_ | refine Goal.exit ?_ | refine Goal.ret ?_ | refine Goal.then_exit ?_ | refine Goal.then_ret ?_ | refine Goal.inBlock_exit ?_ | refine Goal.inBlock_normal ?_ | refine Goal.inBlock_ret ?_ | refine Goal.inBlock_other rfl ?_ | (apply Goal.condT; exact rfl) | (apply Goal.condF; exact rfl) | (refine Goal.condD rfl (fun hc => ?_) (fun hc => ?_) <;> first | (exfalso; omega) | contradiction | skip) | refine Goal.condB rfl (fun hc => ?_) (fun hc => ?_) | (apply G.load; exact rfl; exact rfl; first | exact ag3 T.agg_25 0 rfl rfl rfl rfl | exact ag3 T.agg_25 1 rfl rfl rfl rfl | exact ag3 T.agg_25 2 rfl rfl rfl rfl | exact ag3 T.agg_25 3 rfl rfl rfl rfl | exact ag3 T.agg_25 4 rfl rfl rfl rfl) | (apply G.eql; exact rfl; exact rfl; exact rfl))
  refine Goal.done (vs := [_]) (by first | exact .inl rfl | exact .inr rfl) Try.results60 ⟨rfl, trivial⟩ rfl (fun w' H => ⟨by rw [decide_eq_false hc], H.mod⟩)
end
end Go.Proofs.Ythhhegmhgheeiaa
