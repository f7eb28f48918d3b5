/- Package graph: the arcs of all nodes; package topology: what is valid. -/
import Derived.Test.YthhhegmhgheeiaaSpT
namespace Go.Proofs.Ythhhegmhgheeiaa
open Go.Wf
set_option linter.unusedVariables false
/-- The first k arcs whose h is x. -/
def arcsAt (h : Int → Int) (k : Nat) (x : Int) : List Int := ((List.range k).map fun i : Nat => (i : Int)).filter fun a => decide (h a = x)
def adjL (h : Int → Int) (n k : Nat) : List (List Int) := (List.range n).map fun x : Nat => arcsAt h k (x : Int)
theorem arcsAt_succ (h : Int → Int) (k : Nat) (x : Int) : arcsAt h (k + 1) x = arcsAt h k x ++ if h k = x then [(k : Int)] else [] := by
  unfold arcsAt
  rw [List.range_succ, List.map_append, List.filter_append]
  congr 1
  by_cases e : h k = x <;> simp [e]
theorem arcsAt_len (h : Int → Int) (k : Nat) (x : Int) : (arcsAt h k x).length ≤ k := by
  unfold arcsAt
  refine Nat.le_trans (List.length_filter_le _ _) ?_
  simp
theorem mem_arcsAt {h : Int → Int} {k : Nat} {x a : Int} : a ∈ arcsAt h k x ↔ (0 ≤ a ∧ a < k) ∧ h a = x := by
  unfold arcsAt
  rw [List.mem_filter, List.mem_map]
  constructor
  · rintro ⟨⟨i, hi, rfl⟩, h2⟩
    rw [List.mem_range] at hi
    exact ⟨by omega, of_decide_eq_true h2⟩
  · rintro ⟨h1, h2⟩
    exact ⟨⟨a.toNat, by rw [List.mem_range]; omega, by omega⟩, by simpa using h2⟩
theorem adjL_len (h : Int → Int) (n k : Nat) : (adjL h n k).length = n := by simp [adjL]
theorem adjL_at {h : Int → Int} {n k : Nat} {i : Nat} (hi : i < (adjL h n k).length) : (adjL h n k)[i] = arcsAt h k (i : Int) := by simp [adjL]
theorem adjL_zero (h : Int → Int) (n : Nat) : adjL h n 0 = List.replicate n [] := by
  apply List.ext_getElem
  · simp [adjL]
  · intro i h1 h2
    simp [adjL, arcsAt]
theorem adjL_succ {h : Int → Int} {n k : Nat} (hk : 0 ≤ h k ∧ h k < n) : adjL h n (k + 1) = (adjL h n k).set (h k).toNat (arcsAt h k (h k) ++ [(k : Int)]) := by
  apply List.ext_getElem
  · simp [adjL]
  · intro i h1 h2
    rw [adjL_at, arcsAt_succ, List.getElem_set]
    by_cases e : h k = i
    · rw [if_pos e, if_pos (by omega), ← e]
    · rw [if_neg e, if_neg (by omega), List.append_nil, adjL_at]
structure UX where
  (i : Int) (vs : List Value) (B : List Blk)
structure LX where
  (b : Nat) (vs : List Value) (B : List Blk)
theorem St.drop2 {w0 w : World} {S : List Nat} {p q : Blk} {L : List Blk} (h : St w0 S w (p :: q :: L)) : St w0 S w (p :: L) := h.sub (List.Sublist.cons_cons _ (List.sublist_cons_self _ _))
section
variable {w : World} {tp : Top} {vo vl : Value} {dn : List Bool} {vd : Value}
set_option maxHeartbeats 4000000 in
theorem leaving_ok (hT : TopR w vo vl tp) (ht : tp.Ok) : Calls Try.prog 72 #[.agg #[.int .i64 tp.n, vo, vl]] w fun e w' => ∃ x : LX, InnI 3 x.vs (adjL tp.tl tp.n.toNat tp.arcs.toNat) x.B ∧ e = .returned (.slice (some ⟨x.b, 0, none⟩) (adjL tp.tl tp.n.toNat tp.arcs.toNat).length (adjL tp.tl tp.n.toNat tp.arcs.toNat).length) ∧ St w [] w' ((x.b, .cells x.vs.toArray 46) :: x.B) := by
  have hn := ht.n
  have hln := ht.ln
  have har : tp.arcs ≤ 512 ∧ 0 ≤ tp.arcs := by unfold Top.arcs; omega
  refine Goal.enter (args := [.agg #[.int .i64 tp.n, vo, vl]]) Try.func72 rfl Try.ntmps72 rfl (St.nil w) ?_
  repeat' (first | (refine Goal.loud (o := ⟨some 10, _, _, _, _, _⟩) rfl ?_; apply Loud.call0; exact rfl; exact rfl; exact rfl; exact rfl; exact T.bod_40; exact (fun w' H => arcs_ok (hT.keep H.mod) (by omega))) | (refine Goal.loud (o := ⟨some 1, _, _, _, _, _⟩) rfl ?_; refine Loud.boxA rfl rfl (fun b1 => ?_)) | (refine Goal.loud (o := ⟨some 8, _, _, _, _, _⟩) rfl ?_; refine Loud.makeSlice rfl T.slc_83 T.inf_46 rfl rfl (by decide) rfl rfl (Int.toNat_of_nonneg (by omega)).symm (Int.toNat_of_nonneg (by omega)).symm (by omega) (by omega) (by omega) (fun b8 => ?_)) | (apply G.move; exact rfl; exact rfl) | (apply G.assign; exact rfl; exact rfl) | refine Goal.seq (fun _ _ => ?_) | refine Goal.next (by assumption) ?_ | refine Goal.lnil ?_ | refine Goal.region ?_ | refine Goal.block ?_ | (apply G.fieldAddr; exact rfl; exact rfl; exact T.fld_25_0) | (apply G.load; exact rfl; exact rfl; first | ((first | refine LoadOK.one ?_ 0 rfl rfl | refine LoadOK.one ?_ 1 rfl rfl); exact T.one_3) | exact ag3 T.agg_25 1 rfl rfl rfl rfl))
  refine Goal.loopP (X := UX) (fun x => [(1, .pointer (some ⟨b1, 0, none⟩)), (3, .slice (some ⟨b8, 0, none⟩) tp.n.toNat tp.n.toNat), (10, .int .i64 tp.arcs), (11, .int .i64 x.i)]) (fun x => (b8, .cells x.vs.toArray 46) :: (b1, .cells #[.int .i64 tp.n, vo, vl] 25) :: x.B)
    (fun x => (0 ≤ x.i ∧ x.i ≤ tp.arcs) ∧ InnI 3 x.vs (adjL tp.tl tp.n.toNat x.i.toNat) x.B) (fun x => (tp.arcs - x.i).toNat) ⟨0, List.replicate tp.n.toNat (.slice none 0 0), []⟩ ⟨rfl, rfl, rfl, rfl, trivial⟩ (fun _ h => by rw [← rep_vals]; exact h) ⟨by dsimp only; omega, by dsimp only; rw [show (0 : Int).toNat = 0 from rfl, adjL_zero]; exact InnI.nils 3 _⟩ ?_
  rintro ⟨i, vs, B⟩ ⟨hi, hI⟩
  dsimp only at hi hI ⊢
  have hvl := hI.len
  rw [adjL_len] at hvl
  by_cases h : i < tp.arcs
  · obtain ⟨p1, p2, p3, _⟩ := ht.arc ⟨hi.1, h⟩
    have hx : 0 ≤ tp.tl i ∧ tp.tl i < tp.n := by assumption
    obtain ⟨v, B1, A, B2, hv, rfl, hS, hre⟩ := hI.split (i := (tp.tl i).toNat) (by rw [adjL_len]; omega)
    rw [adjL_at] at hS
    have hal := arcsAt_len tp.tl i.toNat ((tp.tl i).toNat : Int)
    obtain ⟨ad, cp, rfl⟩ := hS.shape
    have hv2 : vs.toArray.toList[0 + (tp.tl i).toNat]? = some (.slice ad (arcsAt tp.tl i.toNat ((tp.tl i).toNat : Int)).length cp) := by rw [Nat.zero_add]; exact hv
    repeat' (first | (refine Goal.loud (o := ⟨some 16, _, _, _, _, _⟩) rfl ?_; apply Loud.call0; exact rfl; exact rfl; exact rfl; exact rfl; exact T.bod_68; exact (fun w' H => tail_ok (hT.keep H.mod) ⟨hi.1, h⟩ (by omega))) | (refine Goal.loud (o := ⟨some 25, _, _, _, _, _⟩) rfl ?_; refine Loud.appendM rfl T.slc_46 T.inf_3 rfl (_ :: _ :: B1) rfl hS rfl rfl rfl rfl (by omega) (by omega) ?_; intro v2 A2 hA2; obtain ⟨ad2, cp2, rfl⟩ := hA2.shape) | (refine Goal.loud (o := ⟨some 24, _, _, _, _, _⟩) rfl ?_; refine Loud.buildSlice (cs := [_]) rfl T.slc_46 T.inf_3 rfl rfl (by decide) rfl rfl rfl (fun b24 => ?_)) | (apply G.move; exact rfl; exact rfl) | (apply G.assign; exact rfl; exact rfl) | refine Goal.seq (fun _ _ => ?_) | refine Goal.next (by assumption) ?_ | refine Goal.lnil ?_ | refine Goal.region ?_ | refine Goal.skip ?_ | refine Goal.block ?_ | refine Goal.inBlock_normal ?_ | (refine Goal.condD rfl (fun hc => ?_) (fun hc => ?_) <;> first | (exfalso; omega) | skip) | (apply G.load; exact rfl; exact rfl; first | exact LoadOK.one T.one_46 0 rfl hv2 | exact ag3 T.agg_25 1 rfl rfl rfl rfl) | (apply G.lss; exact rfl; exact rfl; exact rfl) | (apply G.add; exact rfl; exact rfl; exact rfl; exact IntWalk.i64_in _ (by omega)) | (refine G.indexAddr1 rfl T.slc_83 T.sz_46 rfl rfl _ (Int.toNat_of_nonneg (by omega)).symm (by omega) ?_) | (refine Goal.loud rfl ?_; refine Loud.store0 rfl rfl T.sz_46 rfl rfl rfl (by rw [List.size_toArray]; omega) (wr_vals (by omega)) ?_))
    refine Goal.again ⟨i + 1, vs.set (tp.tl i).toNat (.slice ad2 ((arcsAt tp.tl i.toNat ((tp.tl i).toNat : Int)).length + 1) cp2), B1 ++ (A2 ++ B2)⟩ ⟨by dsimp only; omega, ?_⟩ (by dsimp only; omega) ⟨rfl, rfl, rfl, rfl, trivial⟩ (fun _ h => by simpa only [List.append_eq, List.append_assoc, List.cons_append, List.nil_append, List.append_nil] using h)
    dsimp only
    have hin : ((i.toNat : Nat) : Int) = i := by omega
    rw [show (i + 1).toNat = i.toNat + 1 by omega, adjL_succ (by rw [hin]; omega), hin]
    refine hre _ _ _ ?_
    rw [show (((tp.tl i).toNat : Nat) : Int) = tp.tl i by omega] at hA2
    rw [List.length_append, show ints (arcsAt tp.tl i.toNat (tp.tl i) ++ [i]) = ints (arcsAt tp.tl i.toNat (tp.tl i)) ++ [.int .i64 i] by simp [ints], show (((tp.tl i).toNat : Nat) : Int) = tp.tl i by omega]
    exact hA2
  · obtain hil : i = tp.arcs := by omega
    subst hil
    repeat' (first | (apply G.move; exact rfl; exact rfl) | (apply G.assign; exact rfl; exact rfl) | refine Goal.seq (fun _ _ => ?_) | refine Goal.next (by assumption) ?_ | refine Goal.lnil ?_ | refine Goal.region ?_ | refine Goal.exit ?_ | refine Goal.ret ?_ | refine Goal.then_exit ?_ | refine Goal.inBlock_exit ?_ | (refine Goal.condD rfl (fun hc => ?_) (fun hc => ?_) <;> first | (exfalso; omega) | skip) | (apply G.lss; exact rfl; exact rfl; exact rfl))
    refine Goal.done (vs := [_]) (by first | exact .inl rfl | exact .inr rfl) Try.results72 ⟨rfl, trivial⟩ rfl (fun w' H => ⟨⟨b8, vs, B⟩, hI, by dsimp only; rw [adjL_len], St.drop2 H⟩)
set_option maxHeartbeats 4000000 in
theorem entering_ok (hT : TopR w vo vl tp) (ht : tp.Ok) : Calls Try.prog 48 #[.agg #[.int .i64 tp.n, vo, vl]] w fun e w' => ∃ x : LX, InnI 3 x.vs (adjL tp.hd tp.n.toNat tp.arcs.toNat) x.B ∧ e = .returned (.slice (some ⟨x.b, 0, none⟩) (adjL tp.hd tp.n.toNat tp.arcs.toNat).length (adjL tp.hd tp.n.toNat tp.arcs.toNat).length) ∧ St w [] w' ((x.b, .cells x.vs.toArray 46) :: x.B) := by
  have hn := ht.n
  have hln := ht.ln
  have har : tp.arcs ≤ 512 ∧ 0 ≤ tp.arcs := by unfold Top.arcs; omega
  refine Goal.enter (args := [.agg #[.int .i64 tp.n, vo, vl]]) Try.func48 rfl Try.ntmps48 rfl (St.nil w) ?_
  repeat' (first | (refine Goal.loud (o := ⟨some 10, _, _, _, _, _⟩) rfl ?_; apply Loud.call0; exact rfl; exact rfl; exact rfl; exact rfl; exact T.bod_40; exact (fun w' H => arcs_ok (hT.keep H.mod) (by omega))) | (refine Goal.loud (o := ⟨some 1, _, _, _, _, _⟩) rfl ?_; refine Loud.boxA rfl rfl (fun b1 => ?_)) | (refine Goal.loud (o := ⟨some 8, _, _, _, _, _⟩) rfl ?_; refine Loud.makeSlice rfl T.slc_83 T.inf_46 rfl rfl (by decide) rfl rfl (Int.toNat_of_nonneg (by omega)).symm (Int.toNat_of_nonneg (by omega)).symm (by omega) (by omega) (by omega) (fun b8 => ?_)) | (apply G.move; exact rfl; exact rfl) | (apply G.assign; exact rfl; exact rfl) | refine Goal.seq (fun _ _ => ?_) | refine Goal.next (by assumption) ?_ | refine Goal.lnil ?_ | refine Goal.region ?_ | refine Goal.block ?_ | (apply G.fieldAddr; exact rfl; exact rfl; exact T.fld_25_0) | (apply G.load; exact rfl; exact rfl; first | ((first | refine LoadOK.one ?_ 0 rfl rfl | refine LoadOK.one ?_ 1 rfl rfl); exact T.one_3) | exact ag3 T.agg_25 1 rfl rfl rfl rfl))
  refine Goal.loopP (X := UX) (fun x => [(1, .pointer (some ⟨b1, 0, none⟩)), (3, .slice (some ⟨b8, 0, none⟩) tp.n.toNat tp.n.toNat), (10, .int .i64 tp.arcs), (11, .int .i64 x.i)]) (fun x => (b8, .cells x.vs.toArray 46) :: (b1, .cells #[.int .i64 tp.n, vo, vl] 25) :: x.B)
    (fun x => (0 ≤ x.i ∧ x.i ≤ tp.arcs) ∧ InnI 3 x.vs (adjL tp.hd tp.n.toNat x.i.toNat) x.B) (fun x => (tp.arcs - x.i).toNat) ⟨0, List.replicate tp.n.toNat (.slice none 0 0), []⟩ ⟨rfl, rfl, rfl, rfl, trivial⟩ (fun _ h => by rw [← rep_vals]; exact h) ⟨by dsimp only; omega, by dsimp only; rw [show (0 : Int).toNat = 0 from rfl, adjL_zero]; exact InnI.nils 3 _⟩ ?_
  rintro ⟨i, vs, B⟩ ⟨hi, hI⟩
  dsimp only at hi hI ⊢
  have hvl := hI.len
  rw [adjL_len] at hvl
  by_cases h : i < tp.arcs
  · obtain ⟨p1, p2, p3, _⟩ := ht.arc ⟨hi.1, h⟩
    have hx : 0 ≤ tp.hd i ∧ tp.hd i < tp.n := by assumption
    obtain ⟨v, B1, A, B2, hv, rfl, hS, hre⟩ := hI.split (i := (tp.hd i).toNat) (by rw [adjL_len]; omega)
    rw [adjL_at] at hS
    have hal := arcsAt_len tp.hd i.toNat ((tp.hd i).toNat : Int)
    obtain ⟨ad, cp, rfl⟩ := hS.shape
    have hv2 : vs.toArray.toList[0 + (tp.hd i).toNat]? = some (.slice ad (arcsAt tp.hd i.toNat ((tp.hd i).toNat : Int)).length cp) := by rw [Nat.zero_add]; exact hv
    repeat' (first | (refine Goal.loud (o := ⟨some 16, _, _, _, _, _⟩) rfl ?_; apply Loud.call0; exact rfl; exact rfl; exact rfl; exact rfl; exact T.bod_50; exact (fun w' H => head_ok (hT.keep H.mod) ⟨hi.1, h⟩ (by omega))) | (refine Goal.loud (o := ⟨some 25, _, _, _, _, _⟩) rfl ?_; refine Loud.appendM rfl T.slc_46 T.inf_3 rfl (_ :: _ :: B1) rfl hS rfl rfl rfl rfl (by omega) (by omega) ?_; intro v2 A2 hA2; obtain ⟨ad2, cp2, rfl⟩ := hA2.shape) | (refine Goal.loud (o := ⟨some 24, _, _, _, _, _⟩) rfl ?_; refine Loud.buildSlice (cs := [_]) rfl T.slc_46 T.inf_3 rfl rfl (by decide) rfl rfl rfl (fun b24 => ?_)) | (apply G.move; exact rfl; exact rfl) | (apply G.assign; exact rfl; exact rfl) | refine Goal.seq (fun _ _ => ?_) | refine Goal.next (by assumption) ?_ | refine Goal.lnil ?_ | refine Goal.region ?_ | refine Goal.skip ?_ | refine Goal.block ?_ | refine Goal.inBlock_normal ?_ | (refine Goal.condD rfl (fun hc => ?_) (fun hc => ?_) <;> first | (exfalso; omega) | skip) | (apply G.load; exact rfl; exact rfl; first | exact LoadOK.one T.one_46 0 rfl hv2 | exact ag3 T.agg_25 1 rfl rfl rfl rfl) | (apply G.lss; exact rfl; exact rfl; exact rfl) | (apply G.add; exact rfl; exact rfl; exact rfl; exact IntWalk.i64_in _ (by omega)) | (refine G.indexAddr1 rfl T.slc_83 T.sz_46 rfl rfl _ (Int.toNat_of_nonneg (by omega)).symm (by omega) ?_) | (refine Goal.loud rfl ?_; refine Loud.store0 rfl rfl T.sz_46 rfl rfl rfl (by rw [List.size_toArray]; omega) (wr_vals (by omega)) ?_))
    refine Goal.again ⟨i + 1, vs.set (tp.hd i).toNat (.slice ad2 ((arcsAt tp.hd i.toNat ((tp.hd i).toNat : Int)).length + 1) cp2), B1 ++ (A2 ++ B2)⟩ ⟨by dsimp only; omega, ?_⟩ (by dsimp only; omega) ⟨rfl, rfl, rfl, rfl, trivial⟩ (fun _ h => by simpa only [List.append_eq, List.append_assoc, List.cons_append, List.nil_append, List.append_nil] using h)
    dsimp only
    have hin : ((i.toNat : Nat) : Int) = i := by omega
    rw [show (i + 1).toNat = i.toNat + 1 by omega, adjL_succ (by rw [hin]; omega), hin]
    refine hre _ _ _ ?_
    rw [show (((tp.hd i).toNat : Nat) : Int) = tp.hd i by omega] at hA2
    rw [List.length_append, show ints (arcsAt tp.hd i.toNat (tp.hd i) ++ [i]) = ints (arcsAt tp.hd i.toNat (tp.hd i)) ++ [.int .i64 i] by simp [ints], show (((tp.hd i).toNat : Nat) : Int) = tp.hd i by omega]
    exact hA2
  · obtain hil : i = tp.arcs := by omega
    subst hil
    repeat' (first | (apply G.move; exact rfl; exact rfl) | (apply G.assign; exact rfl; exact rfl) | refine Goal.seq (fun _ _ => ?_) | refine Goal.next (by assumption) ?_ | refine Goal.lnil ?_ | refine Goal.region ?_ | refine Goal.exit ?_ | refine Goal.ret ?_ | refine Goal.then_exit ?_ | refine Goal.inBlock_exit ?_ | (refine Goal.condD rfl (fun hc => ?_) (fun hc => ?_) <;> first | (exfalso; omega) | skip) | (apply G.lss; exact rfl; exact rfl; exact rfl))
    refine Goal.done (vs := [_]) (by first | exact .inl rfl | exact .inr rfl) Try.results48 ⟨rfl, trivial⟩ rfl (fun w' H => ⟨⟨b8, vs, B⟩, hI, by dsimp only; rw [adjL_len], St.drop2 H⟩)
theorem within_ok (x lo hi : Int) (w : World) : Calls Try.prog 91 #[.int .i64 x, .int .i64 lo, .int .i64 hi] w fun e w' => e = .returned (.bool (decide (lo ≤ x ∧ x ≤ hi))) ∧ Mod [] w w' := by
  refine Goal.enter (args := [.int .i64 x, .int .i64 lo, .int .i64 hi]) Try.func91 rfl Try.ntmps91 rfl (St.nil w) ?_
  repeat' (first | (apply G.move; exact rfl; exact rfl) | (apply G.assign; exact rfl; exact rfl) | refine Goal.seq (fun _ _ => ?_) | refine Goal.next (by assumption) ?_ | refine Goal.lnil ?_ | refine Goal.region ?_ | refine Goal.ret ?_ | refine Goal.guardT rfl rfl ?_ | refine Goal.guardF rfl rfl rfl rfl ?_ | (refine Goal.guardD rfl rfl (fun hc => ?_) (fun hc => ?_) <;> skip) | (apply G.pickT; exact rfl; exact rfl; exact rfl) | (apply G.pickF; exact rfl; exact rfl; exact rfl) | (apply G.leq; exact rfl; exact rfl; exact rfl) | (apply G.geq; exact rfl; exact rfl; exact rfl))
  all_goals
    refine Goal.done (vs := [_]) (by first | exact .inl rfl | exact .inr rfl) Try.results91 ⟨rfl, trivial⟩ rfl (fun w' H => ⟨ret_bool (by first | (rw [decide_eq_decide]; omega) | (symm; rw [decide_eq_false_iff_not]; omega)), H.mod⟩)
end
end Go.Proofs.Ythhhegmhgheeiaa
