/- Package waypointref11: Path. · First shortest paths: what Path returns, read from memory. · Package postconv: find, Path, Reaches; package waypointref27: Path. -/
import Derived.Test.YthhhegmhgheeiaaSpG
import Derived.Test.YthhhegmhgheeiaaSpY
import Derived.Test.YthhhegmhgheeiaaSpO
import Derived.Test.YthhhegmhgheeiaaCore6
import Derived.Test.YthhhegmhgheeiaaCore9
namespace Go.Proofs.Ythhhegmhgheeiaa
open Go.Wf
set_option linter.unusedVariables false
theorem chk_cons {tp : Top} {dn : List Bool} {s d : Int} (h : chk tp dn [d] ≠ 0) : chk tp dn [s, d] = chk tp dn [d] := by
  unfold chk at h ⊢
  by_cases h1 : tp.Ok ∧ Fit tp dn
  · simp only [if_pos h1] at h ⊢
    by_cases h2 : ∀ x ∈ [d], 0 ≤ x ∧ x < tp.n
    · rw [if_pos h2] at h; exact absurd rfl h
    · rw [if_neg h2, if_neg (fun h3 => h2 fun x hx => h3 x (by simp at hx ⊢; exact .inr hx))]
  · simp only [if_neg h1]
theorem chk_src {tp : Top} {dn : List Bool} {s d : Int} (h : chk tp dn [s, d] ≠ 0) (h' : chk tp dn [d] = 0) : chk tp dn [s, d] = 2 ∧ ¬ (0 ≤ s ∧ s < tp.n) := by
  obtain ⟨ht, hf, hr⟩ := chk_zero h'
  have hn : ¬ (0 ≤ s ∧ s < tp.n) := fun hs => h (by
    unfold chk
    rw [if_pos ⟨ht, hf⟩, if_pos (by simpa using ⟨hs, hr d (by simp)⟩)])
  refine ⟨?_, hn⟩
  unfold chk
  rw [if_pos ⟨ht, hf⟩, if_neg (fun h3 => hn (h3 s (by simp)))]
section
variable {w : World} {tp : Top} {vo vl vd : Value} {dn : List Bool} {s d : Int}
end
end Go.Proofs.Ythhhegmhgheeiaa
namespace Go.Proofs.Ythhhegmhgheeiaa
open Go.Wf
set_option linter.unusedVariables false
section
variable {tp : Top} {dn : List Bool} {s d : Int} {l p q : List Int} {v v' : Value} {er er' : Int} {A A' : List Blk}
theorem FP.len (ht : tp.Ok) {D : Int → Int} : ∀ {p : List Int} {x : Int}, FP tp dn d D x p → 0 ≤ D x → (p.length : Int) ≤ D x
  | [], x, h, h0 => h0
  | a :: r, x, ⟨h1, h2, ⟨h3, h4⟩, h5, h6⟩, h0 => by
    have hl := OnA.less ht h2 h4
    have := FP.len ht h6 hl.1
    rw [h3] at hl
    rw [List.length_cons]
    omega
theorem PathS.len (ht : tp.Ok) (hl : DL tp.n d (GD tp dn d) l) (hs : 0 ≤ s ∧ s < tp.n) (h : PathS tp dn s d l p v er A) : p.length ≤ 4194240 := by
  rcases h with ⟨_, rfl, _⟩ | ⟨h0, _, hf, _⟩
  · decide
  · have := FP.len ht hf h0
    have := Bell.bound (GD.ok ht) (GD.cap ht) (by decide) hl.bell s hs.1 hs.2
    have := ht.n
    omega
theorem PathS.read {w0 w : World} {S : List Nat} {L : List Blk} (h : PathS tp dn s d l p v er A) (H : St w0 S w L) (hm : ∀ x ∈ A, x ∈ L) : RdV w v (ints p) := by
  rcases h with ⟨_, rfl, rfl, _⟩ | ⟨_, _, _, hS⟩
  · exact RdV.nil w
  · exact rds H hS hm
theorem PathS.one (h : PathS tp dn s d l p v er A) (h' : PathS tp dn s d l q v' er' A') : p = q ∧ er = er' := by
  rcases h with ⟨h0, rfl, _, rfl, _⟩ | ⟨h0, rfl, hf, _⟩
  · rcases h' with ⟨_, rfl, _, rfl, _⟩ | ⟨h1, _⟩
    · exact ⟨rfl, rfl⟩
    · omega
  · rcases h' with ⟨h1, _⟩ | ⟨_, rfl, hf', _⟩
    · omega
    · exact ⟨FP.one hf hf', rfl⟩
end
theorem chk_all {tp : Top} {dn : List Bool} {s d : Int} (h : chk tp dn [s, d] = 0) : tp.Ok ∧ Fit tp dn ∧ (0 ≤ s ∧ s < tp.n) ∧ (0 ≤ d ∧ d < tp.n) := by
  obtain ⟨ht, hf, hr⟩ := chk_zero h
  exact ⟨ht, hf, hr s (by simp), hr d (by simp)⟩
/-- The end of a list of numbers that is only read. -/
theorem rd_drop {w : World} {b cap : Nat} {l : List Int} (h : RdV w (.slice (some ⟨b, 0, none⟩) l.length cap) (ints l)) (j : Nat) (hj : j ≤ l.length) (hc : l.length ≤ cap) : RdV w (.slice (some ⟨b, if cap = j then 0 else 0 + j * 1, none⟩) (l.length - j) (cap - j)) (ints (l.drop j)) := by
  obtain ⟨ad, c, e, hr⟩ := h
  injection e with e _ _
  subst e
  refine ⟨_, _, by rw [ints_len, List.length_drop], fun i u hi => ⟨b, _, rfl, ?_⟩⟩
  have hi' : (ints l)[j + i]? = some u := by
    have : ints (l.drop j) = (ints l).drop j := by simp [ints, List.map_drop]
    rw [this, List.getElem?_drop] at hi
    exact hi
  have hlt : j + i < l.length := by
    have := (List.getElem?_eq_some_iff.mp hi').1
    rwa [ints_len] at this
  rw [if_neg (by omega)]
  obtain ⟨b', o', e, h2⟩ := hr _ _ hi'
  injection e with e
  injection e with e1 e2 _
  subst e1 e2
  simpa using h2
theorem PathS.shape {tp : Top} {dn : List Bool} {s d : Int} {l p : List Int} {v : Value} {er : Int} {A : List Blk} (h : PathS tp dn s d l p v er A) : ∃ ad cp, v = .slice ad p.length cp := by
  rcases h with ⟨_, rfl, rfl, _⟩ | ⟨_, _, _, hS⟩
  · exact ⟨none, 0, rfl⟩
  · exact hS.shape
theorem PathS.same {tp : Top} {dn : List Bool} {s d : Int} {l p q : List Int} {v : Value} {er : Int} {A : List Blk} {c : Int} (h : PathS tp dn s d l p v er A) (hf : FP tp dn d (ia l) s q) (h0 : 0 ≤ c ∧ c < ia l s) : q = p ∧ 0 = er := by
  rcases h with ⟨h1, _⟩ | ⟨_, he, hf', _⟩
  · omega
  · exact ⟨FP.one hf hf', he.symm⟩
theorem FP.on {tp : Top} {dn : List Bool} {d : Int} {D : Int → Int} {x a : Int} {r : List Int} (h : FP tp dn d D x (a :: r)) : OnA tp dn d D a := h.2.2.1.2
end Go.Proofs.Ythhhegmhgheeiaa
namespace Go.Proofs.Ythhhegmhgheeiaa
open Go.Wf
set_option linter.unusedVariables false
section
variable {w : World} {tp : Top} {vo vl vd u : Value} {dn : List Bool} {s d : Int} {b : Nat} {E : TypeId}
theorem use_path {v0 : Value} (ad : Option Addr) (k c : Nat) (H0 : St w [b] w [(b, .cells #[v0] E)]) : Calls Try.prog 76 #[.slice ad k c, .pointer (some ⟨b, 0, none⟩)] w fun e w' => ∃ _ : Unit, True ∧ e = .returned (.tuple #[]) ∧ St w [b] w' [(b, .cells #[.slice ad k c] E)] := by
  refine Goal.enter (args := [.slice ad k c, .pointer (some ⟨b, 0, none⟩)]) Try.func76 rfl Try.ntmps76 rfl (H0) ?_
  repeat' (first | (apply G.move; exact rfl; exact rfl) | refine Goal.seq (fun _ _ => ?_) | refine Goal.next (by assumption) ?_ | refine Goal.lnil ?_ | refine Goal.region ?_ | refine Goal.skip ?_ | refine Goal.block ?_ | refine Goal.exit ?_ | refine Goal.ret ?_ | refine Goal.then_exit ?_ | refine Goal.then_ret ?_ | refine Goal.inBlock_exit ?_ | refine Goal.inBlock_normal ?_ | refine Goal.inBlock_ret ?_ | refine Goal.inBlock_other rfl ?_ | (apply Goal.condT; exact rfl) | (apply Goal.condF; exact rfl) | (refine Goal.condD rfl (fun hc => ?_) (fun hc => ?_) <;> first | (exfalso; omega) | contradiction | skip) | refine Goal.condB rfl (fun hc => ?_) (fun hc => ?_) | (refine Goal.loud rfl ?_; (first | refine Loud.store0 rfl rfl T.sz_46 rfl rfl rfl ?_ rfl ?_ | refine Loud.store1 rfl rfl T.sz_46 rfl rfl rfl ?_ rfl ?_ | refine Loud.store2 rfl rfl T.sz_46 rfl rfl rfl ?_ rfl ?_ | refine Loud.store3 rfl rfl T.sz_46 rfl rfl rfl ?_ rfl ?_ | refine Loud.store4 rfl rfl T.sz_46 rfl rfl rfl ?_ rfl ?_); first | exact Nat.le_of_ble_eq_true rfl | exact Nat.le_refl _ | decide | (simp; omega)))
  refine Goal.done (vs := []) (by first | exact .inl rfl | exact .inr rfl) Try.results76 trivial rfl (fun w' H => ⟨(), trivial, rfl, H⟩)
theorem find_bad (hT : TopR w vo vl tp) (hd : RdV w vd (bools dn)) (hl : tp.ls.length ≤ 1048576) (hov : tp.ov.length ≤ 140737488355328) (hc : chk tp dn [s, d] ≠ 0) : Calls Try.prog 62 #[.agg #[.int .i64 tp.n, vo, vl], vd, .int .i64 s, .int .i64 d, u] w fun e w' => e = .returned (.int .i64 (chk tp dn [s, d])) ∧ Mod [] w w' := by
  have hbad := fun w' (hT : TopR w' vo vl tp) (hd : RdV w' vd (bools dn)) => path_bad (s := s) (d := d) hT hd hl hov hc
  generalize chk tp dn [s, d] = k at hbad hc
  refine Goal.enter (args := [.agg #[.int .i64 tp.n, vo, vl], vd, .int .i64 s, .int .i64 d, u]) Try.func62 rfl Try.ntmps62 rfl (St.nil w) ?_
  repeat' (first | (refine Goal.loud (o := ⟨some 18, _, _, _, _, _⟩) rfl ?_; apply Loud.call0; exact rfl; exact rfl; exact rfl; exact rfl; exact T.bod_79; exact (fun w' H => hbad w' (hT.keep H.mod) (hd.keep H.mod))) | (refine Goal.loud (o := ⟨some 5, _, _, _, _, _⟩) rfl ?_; first | refine Loud.boxA rfl rfl (fun b5 => ?_) | refine Loud.box1 rfl rfl rfl (fun b5 => ?_)) | (apply G.move; exact rfl; exact rfl) | (apply G.assign; exact rfl; exact rfl) | refine Goal.seq (fun _ _ => ?_) | refine Goal.next (by assumption) ?_ | refine Goal.lnil ?_ | refine Goal.region ?_ | refine Goal.skip ?_ | refine Goal.block ?_ | refine Goal.exit ?_ | refine Goal.ret ?_ | refine Goal.then_exit ?_ | refine Goal.then_ret ?_ | refine Goal.inBlock_exit ?_ | refine Goal.inBlock_normal ?_ | refine Goal.inBlock_ret ?_ | refine Goal.inBlock_other rfl ?_ | (apply Goal.condT; exact rfl) | (apply Goal.condF; exact rfl) | (refine Goal.condD rfl (fun hc => ?_) (fun hc => ?_) <;> first | (exfalso; omega) | contradiction | skip) | refine Goal.condB rfl (fun hc => ?_) (fun hc => ?_) | (apply G.load; exact rfl; exact rfl; first | exact ag3 T.agg_25 0 rfl rfl rfl rfl | exact ag3 T.agg_25 1 rfl rfl rfl rfl | exact ag3 T.agg_25 2 rfl rfl rfl rfl | exact ag3 T.agg_25 3 rfl rfl rfl rfl | exact ag3 T.agg_25 4 rfl rfl rfl rfl) | (apply G.eql; exact rfl; exact rfl; exact rfl) | (apply G.extract; exact rfl; exact rfl; exact rfl))
  refine Goal.done (vs := [_]) (by first | exact .inl rfl | exact .inr rfl) Try.results62 ⟨rfl, trivial⟩ rfl (fun w' H => ⟨rfl, H.mod⟩)
theorem find_path (H0 : St w [b] w [(b, .cells #[.slice none 0 0] E)]) (hT : ∀ w', Mod [b] w w' → TopR w' vo vl tp) (hd : ∀ w', Mod [b] w w' → RdV w' vd (bools dn)) (ht : tp.Ok) (hf : Fit tp dn) (hs : 0 ≤ s ∧ s < tp.n) (hr : 0 ≤ d ∧ d < tp.n) :
    Calls Try.prog 62 #[.agg #[.int .i64 tp.n, vo, vl], vd, .int .i64 s, .int .i64 d, .func (.func 76) #[] #[.pointer (some ⟨b, 0, none⟩)]] w fun e w' => ∃ x : PR, (DL tp.n d (GD tp dn d) x.l ∧ PathS tp dn s d x.l x.p x.v x.er x.A) ∧ e = .returned (.int .i64 x.er) ∧ St w [b] w' ((b, .cells #[x.v] E) :: x.A) := by
  refine Goal.enter (args := [.agg #[.int .i64 tp.n, vo, vl], vd, .int .i64 s, .int .i64 d, .func (.func 76) #[] #[.pointer (some ⟨b, 0, none⟩)]]) Try.func62 rfl Try.ntmps62 rfl (H0) ?_
  repeat' (first | (refine Goal.loud (o := ⟨some 18, _, _, _, _, _⟩) rfl ?_; apply Loud.callN; exact rfl; exact rfl; exact rfl; exact rfl; exact T.bod_79; exact (fun w' H => path_ok (hT w' H.mod) (hd w' H.mod) ht hf hs hr); rintro ⟨l, p, v, er, A⟩ ⟨hl, hP⟩; dsimp only at hl hP ⊢; obtain ⟨av, cv, rfl⟩ := hP.shape) | (refine Goal.loud (o := ⟨some 25, _, _, _, _, _⟩) rfl ?_; refine Loud.call (X := Unit) (p := fun _ => True) (val := fun _ => .tuple #[]) (SS := [b]) (A' := fun _ => [(b, .cells #[.slice av p.length cv] E)]) (A := [(b, .cells #[.slice none 0 0] E)]) (R := (b5, .cells #[.int .i64 tp.n, vo, vl] 25) :: A) (fst := []) (cap := #[_]) (vs := [_]) rfl rfl rfl rfl T.bod_76 (fun _ h => h.perm (List.Perm.swap _ _ _)) (by simp [keys]) (fun w' H => use_path av p.length cv (St.start H.left.own H.left.nd (fun _ h => h))) ?_; rintro ⟨⟩ -) | (refine Goal.loud (o := ⟨some 5, _, _, _, _, _⟩) rfl ?_; first | refine Loud.boxA rfl rfl (fun b5 => ?_) | refine Loud.box1 rfl rfl rfl (fun b5 => ?_)) | (apply G.move; exact rfl; exact rfl) | (apply G.assign; exact rfl; exact rfl) | refine Goal.seq (fun _ _ => ?_) | refine Goal.next (by assumption) ?_ | refine Goal.lnil ?_ | refine Goal.region ?_ | refine Goal.skip ?_ | refine Goal.block ?_ | refine Goal.exit ?_ | refine Goal.ret ?_ | refine Goal.then_exit ?_ | refine Goal.then_ret ?_ | refine Goal.inBlock_exit ?_ | refine Goal.inBlock_normal ?_ | refine Goal.inBlock_ret ?_ | refine Goal.inBlock_other rfl ?_ | (apply Goal.condT; exact rfl) | (apply Goal.condF; exact rfl) | (refine Goal.condD rfl (fun hc => ?_) (fun hc => ?_) <;> first | (exfalso; omega) | contradiction | skip) | refine Goal.condB rfl (fun hc => ?_) (fun hc => ?_) | (apply G.load; exact rfl; exact rfl; first | exact ag3 T.agg_25 0 rfl rfl rfl rfl | exact ag3 T.agg_25 1 rfl rfl rfl rfl | exact ag3 T.agg_25 2 rfl rfl rfl rfl | exact ag3 T.agg_25 3 rfl rfl rfl rfl | exact ag3 T.agg_25 4 rfl rfl rfl rfl) | (apply G.eql; exact rfl; exact rfl; exact rfl) | (apply G.extract; exact rfl; exact rfl; exact rfl))
  · refine Goal.done (vs := [_]) (by first | exact .inl rfl | exact .inr rfl) Try.results62 ⟨rfl, trivial⟩ rfl (fun w' H => ⟨⟨l, p, _, er, A⟩, ⟨hl, hP⟩, rfl, H.sub (.cons_cons _ (.cons _ (.refl _)))⟩)
  · have hA : A = [] ∧ Value.slice av p.length cv = .slice none 0 0 := by
      rcases hP with ⟨_, _, h1, _, h2⟩ | ⟨_, he, _⟩
      · exact ⟨h2, h1⟩
      · exact absurd he hc
    refine Goal.done (vs := [_]) (by first | exact .inl rfl | exact .inr rfl) Try.results62 ⟨rfl, trivial⟩ rfl (fun w' H => ⟨⟨l, p, _, er, A⟩, ⟨hl, hP⟩, rfl, by dsimp only; rw [hA.2]; exact H.sub (.cons _ (.refl _))⟩)
theorem ppath_ok (hT : TopR w vo vl tp) (hd : RdV w vd (bools dn)) (ht : tp.Ok) (hf : Fit tp dn) (hs : 0 ≤ s ∧ s < tp.n) (hr : 0 ≤ d ∧ d < tp.n) :
    Calls Try.prog 59 #[.agg #[.int .i64 tp.n, vo, vl], vd, .int .i64 s, .int .i64 d] w fun e w' => ∃ x : PR, (DL tp.n d (GD tp dn d) x.l ∧ PathS tp dn s d x.l x.p x.v x.er x.A) ∧ e = .returned (.tuple #[x.v, .int .i64 x.er]) ∧ St w [] w' x.A := by
  refine Goal.enter (args := [.agg #[.int .i64 tp.n, vo, vl], vd, .int .i64 s, .int .i64 d]) Try.func59 rfl Try.ntmps59 rfl (St.nil w) ?_
  repeat' (first | (refine Goal.loud (o := ⟨some 17, _, _, _, _, _⟩) rfl ?_; refine Loud.call (SS := [b10]) (A := [(b10, .cells #[.slice none 0 0] 46)]) (R := [(b4, .cells #[.int .i64 tp.n, vo, vl] 25)]) (fst := []) (cap := #[]) (vs := [_, _, _, _, _]) rfl rfl rfl rfl T.bod_62 (fun _ h => h) (by simp [keys]) (fun w' H => find_path (St.start H.left.own H.left.nd (fun _ h => h)) (fun w'' hm => hT.keep (H.modOf hm (by simp [keys]))) (fun w'' hm => hd.keep (H.modOf hm (by simp [keys]))) ht hf hs hr) ?_; rintro ⟨l, p, v, er, A⟩ ⟨hl, hP⟩; dsimp only at hl hP ⊢) | (refine Goal.loud (o := ⟨some 4, _, _, _, _, _⟩) rfl ?_; first | refine Loud.boxA rfl rfl (fun b4 => ?_) | refine Loud.box1 rfl rfl rfl (fun b4 => ?_)) | (refine Goal.loud (o := ⟨some 10, _, _, _, _, _⟩) rfl ?_; refine Loud.alloc rfl T.inf_46 rfl (fun b10 => ?_)) | (apply G.move; exact rfl; exact rfl) | (apply G.assign; exact rfl; exact rfl) | refine Goal.seq (fun _ _ => ?_) | refine Goal.next (by assumption) ?_ | refine Goal.lnil ?_ | refine Goal.region ?_ | refine Goal.skip ?_ | refine Goal.block ?_ | refine Goal.exit ?_ | refine Goal.ret ?_ | refine Goal.then_exit ?_ | refine Goal.then_ret ?_ | refine Goal.inBlock_exit ?_ | refine Goal.inBlock_normal ?_ | refine Goal.inBlock_ret ?_ | refine Goal.inBlock_other rfl ?_ | (apply Goal.condT; exact rfl) | (apply Goal.condF; exact rfl) | (refine Goal.condD rfl (fun hc => ?_) (fun hc => ?_) <;> first | (exfalso; omega) | contradiction | skip) | refine Goal.condB rfl (fun hc => ?_) (fun hc => ?_) | (apply G.load; exact rfl; exact rfl; first | ((first | refine LoadOK.one ?_ 0 rfl rfl | refine LoadOK.one ?_ 1 rfl rfl | refine LoadOK.one ?_ 2 rfl rfl | refine LoadOK.one ?_ 3 rfl rfl | refine LoadOK.one ?_ 4 rfl rfl); exact T.one_46) | exact ag3 T.agg_25 0 rfl rfl rfl rfl | exact ag3 T.agg_25 1 rfl rfl rfl rfl | exact ag3 T.agg_25 2 rfl rfl rfl rfl | exact ag3 T.agg_25 3 rfl rfl rfl rfl | exact ag3 T.agg_25 4 rfl rfl rfl rfl) | (apply G.makeFunc; exact rfl; exact rfl; exact rfl))
  refine Goal.done (vs := [_, _]) (by first | exact .inl rfl | exact .inr rfl) Try.results59 ⟨rfl, rfl, trivial⟩ rfl (fun w' H => ⟨⟨l, p, v, er, A⟩, ⟨hl, hP⟩, rfl, H.sub (.cons _ (List.sublist_append_left A _))⟩)
theorem ppath_bad (hT : TopR w vo vl tp) (hd : RdV w vd (bools dn)) (hl : tp.ls.length ≤ 1048576) (hov : tp.ov.length ≤ 140737488355328) (hc : chk tp dn [s, d] ≠ 0) : Calls Try.prog 59 #[.agg #[.int .i64 tp.n, vo, vl], vd, .int .i64 s, .int .i64 d] w fun e w' => e = .returned (.tuple #[.slice none 0 0, .int .i64 (chk tp dn [s, d])]) ∧ Mod [] w w' := by
  have hbad := fun w' (hT : TopR w' vo vl tp) (hd : RdV w' vd (bools dn)) u => find_bad (s := s) (d := d) (u := u) hT hd hl hov hc
  generalize chk tp dn [s, d] = k at hbad hc
  refine Goal.enter (args := [.agg #[.int .i64 tp.n, vo, vl], vd, .int .i64 s, .int .i64 d]) Try.func59 rfl Try.ntmps59 rfl (St.nil w) ?_
  repeat' (first | (refine Goal.loud (o := ⟨some 17, _, _, _, _, _⟩) rfl ?_; apply Loud.call0; exact rfl; exact rfl; exact rfl; exact rfl; exact T.bod_62; exact (fun w' H => hbad w' (hT.keep H.mod) (hd.keep H.mod) _)) | (refine Goal.loud (o := ⟨some 4, _, _, _, _, _⟩) rfl ?_; first | refine Loud.boxA rfl rfl (fun b4 => ?_) | refine Loud.box1 rfl rfl rfl (fun b4 => ?_)) | (refine Goal.loud (o := ⟨some 10, _, _, _, _, _⟩) rfl ?_; refine Loud.alloc rfl T.inf_46 rfl (fun b10 => ?_)) | (apply G.move; exact rfl; exact rfl) | (apply G.assign; exact rfl; exact rfl) | refine Goal.seq (fun _ _ => ?_) | refine Goal.next (by assumption) ?_ | refine Goal.lnil ?_ | refine Goal.region ?_ | refine Goal.skip ?_ | refine Goal.block ?_ | refine Goal.exit ?_ | refine Goal.ret ?_ | refine Goal.then_exit ?_ | refine Goal.then_ret ?_ | refine Goal.inBlock_exit ?_ | refine Goal.inBlock_normal ?_ | refine Goal.inBlock_ret ?_ | refine Goal.inBlock_other rfl ?_ | (apply Goal.condT; exact rfl) | (apply Goal.condF; exact rfl) | (refine Goal.condD rfl (fun hc => ?_) (fun hc => ?_) <;> first | (exfalso; omega) | contradiction | skip) | refine Goal.condB rfl (fun hc => ?_) (fun hc => ?_) | (apply G.load; exact rfl; exact rfl; first | ((first | refine LoadOK.one ?_ 0 rfl rfl | refine LoadOK.one ?_ 1 rfl rfl | refine LoadOK.one ?_ 2 rfl rfl | refine LoadOK.one ?_ 3 rfl rfl | refine LoadOK.one ?_ 4 rfl rfl); exact T.one_46) | exact ag3 T.agg_25 0 rfl rfl rfl rfl | exact ag3 T.agg_25 1 rfl rfl rfl rfl | exact ag3 T.agg_25 2 rfl rfl rfl rfl | exact ag3 T.agg_25 3 rfl rfl rfl rfl | exact ag3 T.agg_25 4 rfl rfl rfl rfl) | (apply G.makeFunc; exact rfl; exact rfl; exact rfl))
  refine Goal.done (vs := [_, _]) (by first | exact .inl rfl | exact .inr rfl) Try.results59 ⟨rfl, rfl, trivial⟩ rfl (fun w' H => ⟨rfl, H.mod⟩)
end
end Go.Proofs.Ythhhegmhgheeiaa
