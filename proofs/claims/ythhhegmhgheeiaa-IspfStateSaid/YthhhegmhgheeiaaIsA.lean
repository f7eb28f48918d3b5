/- Package ispf: a tree in memory; which arcs are usable, and the least that a node's arcs offer. -/
import Derived.Test.YthhhegmhgheeiaaSpX
import Derived.Test.YthhhegmhgheeiaaTreeP
import Derived.Test.YthhhegmhgheeiaaMaps
namespace Go.Wf
section
variable {P : Program} {n : Nat} {w0 : World} {S : List Nat} {F : Fr} {L : List Blk} {Q : Exit → Act → World → Prop} {C : Act → World → Prop}
variable {d : Tmp} {x y : Operand} {T ty k e : TypeId} {ps : String} {af : Array Edge} {g : Option (Nat × Bool)} {asr : Array Operand} {ts : Array TypeId} {f : FuncId} {vs fst : List Value} {cap : Array Value}
/-- The callee makes memory at most, nobody is told of it, and it returns one of some values. -/
theorem Loud.callV {X : Type} {p : X → Prop} {val : X → Value} {args : List Value} (hn : Nat.blt d n = true) (hx : ev F x = some (.func (.func f) fst.toArray cap)) (ha : evs F asr.toList = some vs) (hargs : fst ++ vs ++ cap.toList = args) (hb : Bod P f)
    (hc : ∀ w, St w0 S w L → Calls P f args.toArray w fun e w' => ∃ x, p x ∧ e = .returned (val x) ∧ Mod [] w w')
    (h : ∀ x, p x → Goal n w0 S ((d, val x) :: F) L C) : Goal n w0 S F L (OW P Q ⟨some d, .call { callee := .value x, args := asr, argTypes := ts }, ty, ps, af, g⟩ C) :=
  Loud.call (X := X) (p := p) (val := val) (SS := []) (A := []) (A' := fun _ => []) (R := L) hn hx ha hargs hb (fun _ hw => hw) (fun _ h => by cases h)
    (fun w hw => (hc w hw).mono fun e w' ⟨x, hp, he, hm⟩ => ⟨x, hp, he, ⟨hm, trivial, List.nodup_nil, fun _ h => by cases h⟩⟩) fun x hp => h x hp
theorem Run.lookV {vm : Value} {key : Int} {r : Bool} (h : ∀ w, St w0 S w L → (Instr.lookup T vm (.int .i64 key) false).run P w = .ok (.bool r) w) (hx : ev F x = some vm) (hy : ev F y = some (.int .i64 key)) {d : Option Tmp} :
    Run P n w0 S F L ⟨d, .lookup T x y false, ty, ps, af, g⟩ (.bool r) := Run.of fun ρ hρ w hw => by
  simp only [execOp, hρ _ _ hx, hρ _ _ hy, Sem.run_bind, h w hw, Result.andThen_ok, Sem.run_pure]
end
end Go.Wf
namespace Go.Proofs.Ythhhegmhgheeiaa
open Go.Wf
set_option linter.unusedVariables false
/-- A tree's cells. -/
def trc (tp : Top) (vo vl vd vs : Value) (d k : Int) : List Value := [.int .i64 tp.n, vo, vl, vd, .int .i64 d, vs, .int .i64 k]
/-- A tree that is only read, but for its distances. -/
structure TrC (w : World) (bx : Nat) (tp : Top) (dn : List Bool) (d : Int) (vo vl vd vs : Value) : Prop where
  ag : ∀ j v, [Value.int .i64 tp.n, vo, vl][j]? = some v → w.cell? ⟨bx, 0 + j, none⟩ = some v
  cd : w.cell? ⟨bx, 3, none⟩ = some vd
  cr : w.cell? ⟨bx, 4, none⟩ = some (.int .i64 d)
  cs : w.cell? ⟨bx, 5, none⟩ = some vs
  top : TopR w vo vl tp
  dn : RdV w vd (bools dn)
/-- A set that is only read, or none. -/
def SetR (w : World) (T : TypeId) (vm : Value) (X : Int → Bool) : Prop := ∀ w', Mod [] w w' → ∀ key, (Instr.lookup T vm (.int .i64 key) false).run Try.prog w' = .ok (.bool (X key)) w'
theorem SetR.keep {w w' : World} {T : TypeId} {vm : Value} {X : Int → Bool} (h : SetR w T vm X) (hm : Mod [] w w') : SetR w' T vm X := fun w'' h2 => h w'' (hm.trans h2)
section
variable {w : World} {bx : Nat} {tp : Top} {dn : List Bool} {d : Int} {vo vl vd vs : Value}
theorem TrC.keep {w' : World} (h : TrC w bx tp dn d vo vl vd vs) (hm : Mod [] w w') : TrC w' bx tp dn d vo vl vd vs :=
  ⟨fun j v hj => hm.cell (h.ag j v hj) (by simp), hm.cell h.cd (by simp), hm.cell h.cr (by simp), hm.cell h.cs (by simp), h.top.keep hm, h.dn.keep hm⟩
theorem arc_ok (hT : TopR w vo vl tp) (hl : tp.ls.length ≤ 1048576) (x : Int) : Calls Try.prog 45 #[.agg #[.int .i64 tp.n, vo, vl], .int .i64 x] w fun e w' => e = .returned (.bool (decide (0 ≤ x ∧ x < tp.arcs))) ∧ Mod [] w w' := by
  refine Goal.enter (args := [.agg #[.int .i64 tp.n, vo, vl], .int .i64 x]) Try.func45 rfl Try.ntmps45 rfl (St.nil w) ?_
  repeat' (first | (refine Goal.loud (o := ⟨some 10, _, _, _, _, _⟩) rfl ?_; apply Loud.call0; exact rfl; exact rfl; exact rfl; exact rfl; exact T.bod_40; exact (fun w' H => arcs_ok (hT.keep H.mod) hl)) | (refine Goal.loud (o := ⟨some 2, _, _, _, _, _⟩) rfl ?_; refine Loud.boxA rfl rfl (fun b2 => ?_)) | (apply G.move; exact rfl; exact rfl) | (apply G.assign; exact rfl; exact rfl) | refine Goal.seq (fun _ _ => ?_) | refine Goal.next (by assumption) ?_ | refine Goal.lnil ?_ | refine Goal.region ?_ | refine Goal.ret ?_ | refine Goal.guardT rfl rfl ?_ | refine Goal.guardF rfl rfl rfl rfl ?_ | (refine Goal.guardD rfl rfl (fun hc => ?_) (fun hc => ?_) <;> skip) | (apply G.load; exact rfl; exact rfl; exact ag3 T.agg_25 0 rfl rfl rfl rfl) | (apply G.pickT; exact rfl; exact rfl; exact rfl) | (apply G.pickF; exact rfl; exact rfl; exact rfl) | (apply G.lss; exact rfl; exact rfl; exact rfl) | (apply G.geq; exact rfl; exact rfl; exact rfl))
  all_goals
    refine Goal.done (vs := [_]) (by first | exact .inl rfl | exact .inr rfl) Try.results45 ⟨rfl, trivial⟩ rfl (fun w' H => ⟨ret_bool (by simp; omega), H.mod⟩)
theorem usable_ok (hR : TrC w bx tp dn d vo vl vd vs) (hS : TrS tp dn d) {a : Int} (ha : 0 ≤ a ∧ a < tp.arcs) : Calls Try.prog 51 #[.pointer (some ⟨bx, 0, none⟩), .int .i64 a] w fun e w' => e = .returned (.bool (decide (ba dn a = false ∧ (tp.hd a = d ∨ tp.over (tp.hd a) = false)))) ∧ Mod [] w w' := by
  have ht := hS.ok
  have hn := ht.n
  have hln := ht.ln
  have hdl := hS.dn
  have hol := hS.ov
  have har0 : tp.arcs = 2 * (tp.ls.length : Int) := rfl
  obtain ⟨_, hh, _⟩ := ht.arc ha
  obtain ⟨ad, cd, rfl⟩ := shapeB hR.dn
  obtain ⟨ao, co, rfl⟩ := shapeB hR.top.ov
  obtain ⟨b, o, rfl, hkd⟩ := rd_bools hR.dn (by omega)
  obtain ⟨b2, o2, rfl, hko⟩ := rd_bools hR.top.ov (by omega)
  have hca := hkd a ha.1 (by omega)
  have hoa := hko (tp.hd a) hh.1 (by omega)
  clear hkd hko
  have he : tp.over (tp.hd a) = ba tp.ov (tp.hd a) := rfl
  rw [he]
  cases hb : ba dn a
  · rw [hb] at hca
    cases hv : ba tp.ov (tp.hd a)
    · rw [hv] at hoa
      refine Goal.enter (args := [.pointer (some ⟨bx, 0, none⟩), .int .i64 a]) Try.func51 rfl Try.ntmps51 rfl (St.nil w) ?_
      repeat' (first | (refine Goal.loud (o := ⟨some 11, _, _, _, _, _⟩) rfl ?_; apply Loud.call0; exact rfl; exact rfl; exact rfl; exact rfl; exact T.bod_50; exact (fun w' H => head_ok (hR.top.keep H.mod) ha (by omega))) | (apply G.move; exact rfl; exact rfl) | (apply G.assign; exact rfl; exact rfl) | refine Goal.seq (fun _ _ => ?_) | refine Goal.next (by assumption) ?_ | refine Goal.lnil ?_ | refine Goal.region ?_ | refine Goal.ret ?_ | refine Goal.guardT rfl rfl ?_ | refine Goal.guardF rfl rfl rfl rfl ?_ | (refine Goal.guardD rfl rfl (fun hc => ?_) (fun hc => ?_) <;> skip) | (apply G.fieldAddr; exact rfl; exact rfl; (first | exact T.fld_25_1 | exact T.fld_77_0 | exact T.fld_77_1 | exact T.fld_77_2)) | (apply G.load; exact rfl; exact rfl; first | exact LoadOK.oldAgg (vs := [.int .i64 tp.n, .slice (some ⟨b2, o2, none⟩) tp.ov.length co, vl]) T.agg_25 rfl hR.ag (by simp) | exact LoadOK.old T.one_22 hR.cd (by simp) | exact LoadOK.old T.one_3 hR.cr (by simp) | exact LoadOK.old T.one_22 (hR.ag 1 _ rfl) (by simp) | exact LoadOK.old T.one_4 hca (by simp) | exact LoadOK.old T.one_4 hoa (by simp)) | (apply G.pickT; exact rfl; exact rfl; exact rfl) | (apply G.pickF; exact rfl; exact rfl; exact rfl) | (apply G.eql; exact rfl; exact rfl; exact rfl) | (apply G.notF; exact rfl; exact rfl) | (apply G.nilCheckP; exact rfl; exact rfl) | (refine G.indexAddr1 rfl T.slc_22 T.sz_4 rfl rfl _ (Int.toNat_of_nonneg (by omega)).symm (by omega) ?_))
      all_goals
        refine Goal.done (vs := [_]) (by first | exact .inl rfl | exact .inr rfl) Try.results51 ⟨rfl, trivial⟩ rfl (fun w' H => ⟨ret_bool (by simp), H.mod⟩)
    · rw [hv] at hoa
      refine Goal.enter (args := [.pointer (some ⟨bx, 0, none⟩), .int .i64 a]) Try.func51 rfl Try.ntmps51 rfl (St.nil w) ?_
      repeat' (first | (refine Goal.loud (o := ⟨some 11, _, _, _, _, _⟩) rfl ?_; apply Loud.call0; exact rfl; exact rfl; exact rfl; exact rfl; exact T.bod_50; exact (fun w' H => head_ok (hR.top.keep H.mod) ha (by omega))) | (apply G.move; exact rfl; exact rfl) | (apply G.assign; exact rfl; exact rfl) | refine Goal.seq (fun _ _ => ?_) | refine Goal.next (by assumption) ?_ | refine Goal.lnil ?_ | refine Goal.region ?_ | refine Goal.ret ?_ | refine Goal.guardT rfl rfl ?_ | refine Goal.guardF rfl rfl rfl rfl ?_ | (refine Goal.guardD rfl rfl (fun hc => ?_) (fun hc => ?_) <;> skip) | (apply G.fieldAddr; exact rfl; exact rfl; (first | exact T.fld_25_1 | exact T.fld_77_0 | exact T.fld_77_1 | exact T.fld_77_2)) | (apply G.load; exact rfl; exact rfl; first | exact LoadOK.oldAgg (vs := [.int .i64 tp.n, .slice (some ⟨b2, o2, none⟩) tp.ov.length co, vl]) T.agg_25 rfl hR.ag (by simp) | exact LoadOK.old T.one_22 hR.cd (by simp) | exact LoadOK.old T.one_3 hR.cr (by simp) | exact LoadOK.old T.one_22 (hR.ag 1 _ rfl) (by simp) | exact LoadOK.old T.one_4 hca (by simp) | exact LoadOK.old T.one_4 hoa (by simp)) | (apply G.pickT; exact rfl; exact rfl; exact rfl) | (apply G.pickF; exact rfl; exact rfl; exact rfl) | (apply G.eql; exact rfl; exact rfl; exact rfl) | (apply G.notT; exact rfl; exact rfl) | (apply G.notF; exact rfl; exact rfl) | (apply G.nilCheckP; exact rfl; exact rfl) | (refine G.indexAddr1 rfl T.slc_22 T.sz_4 rfl rfl _ (Int.toNat_of_nonneg (by omega)).symm (by omega) ?_))
      all_goals
        refine Goal.done (vs := [_]) (by first | exact .inl rfl | exact .inr rfl) Try.results51 ⟨rfl, trivial⟩ rfl (fun w' H => ⟨ret_bool (by simp; omega), H.mod⟩)
  · rw [hb] at hca
    refine Goal.enter (args := [.pointer (some ⟨bx, 0, none⟩), .int .i64 a]) Try.func51 rfl Try.ntmps51 rfl (St.nil w) ?_
    repeat' (first | (refine Goal.loud (o := ⟨some 11, _, _, _, _, _⟩) rfl ?_; apply Loud.call0; exact rfl; exact rfl; exact rfl; exact rfl; exact T.bod_50; exact (fun w' H => head_ok (hR.top.keep H.mod) ha (by omega))) | (apply G.move; exact rfl; exact rfl) | (apply G.assign; exact rfl; exact rfl) | refine Goal.seq (fun _ _ => ?_) | refine Goal.next (by assumption) ?_ | refine Goal.lnil ?_ | refine Goal.region ?_ | refine Goal.ret ?_ | refine Goal.guardF rfl rfl rfl rfl ?_ | refine Goal.guardU rfl rfl rfl ?_ | (apply G.fieldAddr; exact rfl; exact rfl; (first | exact T.fld_77_0 | exact T.fld_77_1)) | (apply G.load; exact rfl; exact rfl; first | exact LoadOK.oldAgg (vs := [.int .i64 tp.n, .slice (some ⟨b2, o2, none⟩) tp.ov.length co, vl]) T.agg_25 rfl hR.ag (by simp) | exact LoadOK.old T.one_22 hR.cd (by simp) | exact LoadOK.old T.one_4 hca (by simp)) | (apply G.pickF; exact rfl; exact rfl; exact rfl) | (apply G.notT; exact rfl; exact rfl) | (apply G.nilCheckP; exact rfl; exact rfl) | (refine G.indexAddr1 rfl T.slc_22 T.sz_4 rfl rfl _ (Int.toNat_of_nonneg (by omega)).symm (by omega) ?_))
    refine Goal.done (vs := [_]) (by first | exact .inl rfl | exact .inr rfl) Try.results51 ⟨rfl, trivial⟩ rfl (fun w' H => ⟨ret_bool (by simp), H.mod⟩)
structure BJ where
  (i v : Int)
/-- What was found over the first i arcs. -/
structure BestI (tp : Top) (dn : List Bool) (d : Int) (F : Int → Int) (X : Int → Bool) (lv : List Int) (i v : Int) : Prop where
  le : ∀ q, 0 ≤ q → q < i → ba dn (ia lv q) = false → (tp.hd (ia lv q) = d ∨ tp.over (tp.hd (ia lv q)) = false) → 0 ≤ F (tp.hd (ia lv q)) → X (tp.hd (ia lv q)) = false → 0 ≤ v ∧ v ≤ F (tp.hd (ia lv q)) + tp.co (ia lv q)
  ex : v = -1 ∨ ∃ q, (0 ≤ q ∧ q < i) ∧ ba dn (ia lv q) = false ∧ (tp.hd (ia lv q) = d ∨ tp.over (tp.hd (ia lv q)) = false) ∧ 0 ≤ F (tp.hd (ia lv q)) ∧ X (tp.hd (ia lv q)) = false ∧ F (tp.hd (ia lv q)) + tp.co (ia lv q) = v
theorem BestI.skip {F : Int → Int} {X : Int → Bool} {lv : List Int} {i v : Int} (h : BestI tp dn d F X lv i v) (hi : 0 ≤ i) (hn : ¬ (ba dn (ia lv i) = false ∧ (tp.hd (ia lv i) = d ∨ tp.over (tp.hd (ia lv i)) = false) ∧ 0 ≤ F (tp.hd (ia lv i)) ∧ X (tp.hd (ia lv i)) = false) ∨ (0 ≤ v ∧ v ≤ F (tp.hd (ia lv i)) + tp.co (ia lv i))) : BestI tp dn d F X lv (i + 1) v := by
  refine ⟨fun q q0 q1 a b c e => ?_, h.ex.imp id fun ⟨q, hq, r⟩ => ⟨q, by omega, r⟩⟩
  by_cases hq : q = i
  · subst hq
    rcases hn with hn | hn
    · exact absurd ⟨a, b, c, e⟩ hn
    · exact hn
  · exact h.le q q0 (by omega) a b c e
theorem BestI.take {F : Int → Int} {X : Int → Bool} {lv : List Int} {i v u : Int} (h : BestI tp dn d F X lv i v) (hi : 0 ≤ i) (hu : u = F (tp.hd (ia lv i)) + tp.co (ia lv i)) (h1 : ba dn (ia lv i) = false) (h2 : tp.hd (ia lv i) = d ∨ tp.over (tp.hd (ia lv i)) = false) (h3 : 0 ≤ F (tp.hd (ia lv i))) (h4 : X (tp.hd (ia lv i)) = false) (hv : v < 0 ∨ u < v) (hc : 0 ≤ tp.co (ia lv i)) : BestI tp dn d F X lv (i + 1) u := by
  refine ⟨fun q q0 q1 a b c e => ?_, .inr ⟨i, by omega, h1, h2, h3, h4, hu.symm⟩⟩
  by_cases hq : q = i
  · subst hq; omega
  · have := h.le q q0 (by omega) a b c e
    omega
theorem BestI.all {F : Int → Int} {X : Int → Bool} {x v : Int} (ht : tp.Ok) (h : BestI tp dn d F X (arcsAt tp.tl tp.arcs.toNat x) (arcsAt tp.tl tp.arcs.toNat x).length v) : BestP (GD tp dn d) F X x v := by
  refine ⟨fun y c ⟨a, ha, h1, h2, h3, h4, h5⟩ hy hX => ?_, h.ex.imp id fun ⟨q, hq, h1, h2, h3, h4, h5⟩ => ?_⟩
  · have hmem : a ∈ arcsAt tp.tl tp.arcs.toNat x := mem_arcsAt.2 ⟨by omega, h3.symm⟩
    obtain ⟨q, hq, rfl⟩ := List.getElem_of_mem hmem
    have := h.le (q : Int) (by omega) (by omega)
    have e : ia (arcsAt tp.tl tp.arcs.toNat x) (q : Int) = (arcsAt tp.tl tp.arcs.toNat x)[q] := (ia_at (i := (q : Int)) (by omega)).symm
    rw [e] at this
    subst h4 h5
    exact this h1 h2 hy hX
  · have hm := mem_arcsAt.1 (mem_ia hq)
    exact ⟨_, _, ⟨_, by omega, h1, h2, hm.2.symm, rfl, rfl⟩, h3, h4, h5⟩
set_option maxHeartbeats 8000000 in
theorem best_ok {l : List Int} {va vL vE vm : Value} {X : Int → Bool} {x : Int} (hR : TrC w bx tp dn d vo vl vd vs) (hS : TrS tp dn d) (hs : RdV w vs (ints l)) (hl : (l.length : Int) = tp.n) (hb : ∀ y, 0 ≤ y → y < tp.n → -1 ≤ ia l y ∧ ia l y ≤ 1000000000) (hL : RdLL w vL (adjL tp.tl tp.n.toNat tp.arcs.toNat)) (hm : SetR w 98 vm X) (hx : 0 ≤ x ∧ x < tp.n) :
    Calls Try.prog 89 #[.agg #[.pointer (some ⟨bx, 0, none⟩), va, vL, vE, vm], .int .i64 x] w fun e w' => ∃ v : Int, BestP (GD tp dn d) (ia l) X x v ∧ e = .returned (.int .i64 v) ∧ Mod [] w w' := by
  have ht := hS.ok
  have hn := ht.n
  have hln := ht.ln
  have hdl := hS.dn
  have har0 : tp.arcs = 2 * (tp.ls.length : Int) := rfl
  obtain ⟨as', cs', rfl, _⟩ := id hs
  rw [ints_len] at hs hR
  obtain ⟨bs, os, rfl, hks⟩ := rd_nums hs (by omega)
  obtain ⟨bo, cap, us, rfl, hul, hLL⟩ := id hL
  rw [adjL_len] at hul
  obtain ⟨u, h1, h2, h3⟩ := hLL x.toNat (by rw [adjL_len]; omega)
  rw [adjL_at, Int.toNat_of_nonneg hx.1] at h3
  have hal := arcsAt_len tp.tl tp.arcs.toNat x
  have hlk := adjL_len tp.tl tp.n.toNat tp.arcs.toNat
  obtain ⟨au, cu, rfl, _⟩ := id h3
  rw [ints_len] at h3 h2
  refine Goal.enter (args := [.agg #[.pointer (some ⟨bx, 0, none⟩), va, .slice (some ⟨bo, 0, none⟩) (adjL tp.tl tp.n.toNat tp.arcs.toNat).length cap, vE, vm], .int .i64 x]) Try.func89 rfl Try.ntmps89 rfl (St.nil w) ?_
  repeat' (first | (refine Goal.loud (o := ⟨some 2, _, _, _, _, _⟩) rfl ?_; refine Loud.boxA rfl rfl (fun b2 => ?_)) | (apply G.move; exact rfl; exact rfl) | (apply G.assign; exact rfl; exact rfl) | refine Goal.seq (fun _ _ => ?_) | refine Goal.next (by assumption) ?_ | refine Goal.lnil ?_ | refine Goal.region ?_ | refine Goal.block ?_ | (apply G.fieldAddr; exact rfl; exact rfl; (exact T.fld_100_2)) | (apply G.load; exact rfl; exact rfl; first | exact LoadOK.old T.one_46 (by rw [Nat.zero_add]; exact h2) (by simp) | ((refine LoadOK.one ?_ 0 rfl rfl); exact T.one_83)) | (apply G.len; exact rfl; exact rfl; exact T.slc_46) | (refine G.indexAddr1 rfl (by first | exact T.slc_46 | exact T.slc_83) (by first | exact T.sz_3 | exact T.sz_46) rfl rfl _ (Int.toNat_of_nonneg (by omega)).symm (by omega) ?_))
  refine Goal.loopP (X := BJ) (fun y => [(1, .int .i64 x), (2, .pointer (some ⟨b2, 0, none⟩)), (5, .int .i64 y.v), (14, .slice au (arcsAt tp.tl tp.arcs.toNat x).length cu), (15, .int .i64 (arcsAt tp.tl tp.arcs.toNat x).length), (16, .int .i64 y.i)]) (fun _ => [(b2, .cells #[.pointer (some ⟨bx, 0, none⟩), va, .slice (some ⟨bo, 0, none⟩) (adjL tp.tl tp.n.toNat tp.arcs.toNat).length cap, vE, vm] 100)])
    (fun y => (0 ≤ y.i ∧ y.i ≤ (arcsAt tp.tl tp.arcs.toNat x).length) ∧ BestI tp dn d (ia l) X (arcsAt tp.tl tp.arcs.toNat x) y.i y.v) (fun y => ((arcsAt tp.tl tp.arcs.toNat x).length - y.i).toNat) ⟨0, -1⟩ ⟨rfl, rfl, rfl, rfl, rfl, rfl, trivial⟩ (fun _ h => h) ⟨by dsimp only; omega, fun q q0 q1 => by dsimp only at q1; omega, .inl rfl⟩ ?_
  rintro ⟨i, v⟩ ⟨hi, hB⟩
  dsimp only at hi hB ⊢
  by_cases h : i < (arcsAt tp.tl tp.arcs.toNat x).length
  · obtain ⟨b3, o3, rfl, hk3⟩ := rd_nums h3 (by omega)
    have hmem := mem_arcsAt.1 (mem_ia (l := arcsAt tp.tl tp.arcs.toNat x) (i := i) ⟨hi.1, h⟩)
    have hc3 := hk3 i hi.1 h
    have hskip := hB.skip hi.1
    have htake := fun u => hB.take (u := u) hi.1
    generalize haa : ia (arcsAt tp.tl tp.arcs.toNat x) i = a at hmem hc3 hskip htake
    have har : 0 ≤ a ∧ a < tp.arcs := by omega
    obtain ⟨_, hh, hco, _⟩ := ht.arc har
    have hcs := hks (tp.hd a) hh.1 (by omega)
    have hbb := hb (tp.hd a) hh.1 hh.2
    have hlook : ∀ w', Mod [] w w' → (Instr.lookup 98 vm (.int .i64 (tp.hd a)) false).run Try.prog w' = .ok (.bool (X (tp.hd a))) w' := fun w' hmm => hm w' hmm _
    by_cases hus : ba dn a = false ∧ (tp.hd a = d ∨ tp.over (tp.hd a) = false)
    · cases hX : X (tp.hd a)
      · rw [hX] at hlook
        repeat' (first | (refine Goal.drawAll (id := 7) 16 T.mixed ?_; all_goals ((refine Goal.takeP (listed' := #[Ya,No,No,No,No,No,No,No,No,No,No,No,No,No,No,No,No]) 0 ⟨rfl, by kernel_rfl, by kernel_rfl, by kernel_rfl, by kernel_rfl⟩ rfl (fun _ _ _ _ h => h) (by intro _; exact Run.fieldAddr T.fld_100_0 rfl) ?_)); all_goals ((refine Goal.takeP (listed' := #[Ya,No,No,No,No,Ya,No,No,No,No,No,No,No,No,No,No,No]) 5 ⟨rfl, by kernel_rfl, by kernel_rfl, by kernel_rfl, by kernel_rfl⟩ rfl (fun _ _ _ _ h => h) (by intro _; exact Run.move rfl) ?_)); all_goals ((refine Goal.takeP (listed' := #[Ya,No,No,No,No,Ya,No,No,Ya,No,No,No,No,No,No,No,No]) 8 ⟨rfl, by kernel_rfl, by kernel_rfl, by kernel_rfl, by kernel_rfl⟩ rfl (fun _ _ _ _ h => h) (by intro _; exact Run.fieldAddr T.fld_100_0 rfl) ?_)); all_goals ((refine Goal.takeP (listed' := #[Ya,No,No,No,No,Ya,No,No,Ya,No,No,No,No,Ya,No,No,No]) 13 ⟨rfl, by kernel_rfl, by kernel_rfl, by kernel_rfl, by kernel_rfl⟩ rfl (fun _ _ _ _ h => h) (by intro _; exact Run.move rfl) ?_)); all_goals ((refine Goal.take (listed' := #[Ya,Ya,No,No,No,Ya,No,No,Ya,No,No,No,No,Ya,No,No,No]) 1 ⟨rfl, by kernel_rfl, by kernel_rfl, by kernel_rfl, by kernel_rfl, by kernel_rfl⟩ rfl (by (exact s0)) (fun _ _ _ _ h => h) (by (apply Run.load; exact rfl; exact LoadOK.one T.one_30 0 rfl rfl)) ?_)); all_goals ((refine Goal.takeP (listed' := #[Ya,Ya,Ya,No,No,Ya,No,No,Ya,No,No,No,No,Ya,No,No,No]) 2 ⟨rfl, by kernel_rfl, by kernel_rfl, by kernel_rfl, by kernel_rfl⟩ rfl (fun _ _ _ _ h => h) (by intro _; exact Run.nilCheckP rfl) ?_)); all_goals ((refine Goal.takeP (listed' := #[Ya,Ya,Ya,Ya,No,Ya,No,No,Ya,No,No,No,No,Ya,No,No,No]) 3 ⟨rfl, by kernel_rfl, by kernel_rfl, by kernel_rfl, by kernel_rfl⟩ rfl (fun _ _ _ _ h => h) (by intro _; exact Run.fieldAddr T.fld_77_3 rfl) ?_)); all_goals ((refine Goal.take (listed' := #[Ya,Ya,Ya,Ya,Ya,Ya,No,No,Ya,No,No,No,No,Ya,No,No,No]) 4 ⟨rfl, by kernel_rfl, by kernel_rfl, by kernel_rfl, by kernel_rfl, by kernel_rfl⟩ rfl (by (exact s0)) (fun _ _ _ _ h => h) (by (apply Run.load; exact rfl; exact LoadOK.old T.one_46 hR.cs (by simp))) ?_)); all_goals ((refine Goal.takeP (listed' := #[Ya,Ya,Ya,Ya,Ya,Ya,Ya,No,Ya,No,No,No,No,Ya,No,No,No]) 6 ⟨rfl, by kernel_rfl, by kernel_rfl, by kernel_rfl, by kernel_rfl⟩ rfl (fun _ _ _ _ h => h) (by intro _; exact Run.indexAddr1 T.slc_46 T.sz_3 rfl rfl (Int.toNat_of_nonneg (by omega)).symm (by omega)) ?_)); all_goals ((refine Goal.take (listed' := #[Ya,Ya,Ya,Ya,Ya,Ya,Ya,Ya,Ya,No,No,No,No,Ya,No,No,No]) 7 ⟨rfl, by kernel_rfl, by kernel_rfl, by kernel_rfl, by kernel_rfl, by kernel_rfl⟩ rfl (by (exact s0)) (fun _ _ _ _ h => h) (by (apply Run.load; exact rfl; exact LoadOK.old T.one_3 hcs (by simp))) ?_)); all_goals ((refine Goal.take (listed' := #[Ya,Ya,Ya,Ya,Ya,Ya,Ya,Ya,Ya,Ya,No,No,No,Ya,No,No,No]) 9 ⟨rfl, by kernel_rfl, by kernel_rfl, by kernel_rfl, by kernel_rfl, by kernel_rfl⟩ rfl (by (exact s0)) (fun _ _ _ _ h => h) (by (apply Run.load; exact rfl; exact LoadOK.one T.one_30 0 rfl rfl)) ?_)); all_goals ((refine Goal.takeP (listed' := #[Ya,Ya,Ya,Ya,Ya,Ya,Ya,Ya,Ya,Ya,Ya,No,No,Ya,No,No,No]) 10 ⟨rfl, by kernel_rfl, by kernel_rfl, by kernel_rfl, by kernel_rfl⟩ rfl (fun _ _ _ _ h => h) (by intro _; exact Run.nilCheckP rfl) ?_)); all_goals ((refine Goal.takeP (listed' := #[Ya,Ya,Ya,Ya,Ya,Ya,Ya,Ya,Ya,Ya,Ya,Ya,No,Ya,No,No,No]) 11 ⟨rfl, by kernel_rfl, by kernel_rfl, by kernel_rfl, by kernel_rfl⟩ rfl (fun _ _ _ _ h => h) (by intro _; exact Run.fieldAddr T.fld_77_0 rfl) ?_)); all_goals ((refine Goal.take (listed' := #[Ya,Ya,Ya,Ya,Ya,Ya,Ya,Ya,Ya,Ya,Ya,Ya,Ya,Ya,No,No,No]) 12 ⟨rfl, by kernel_rfl, by kernel_rfl, by kernel_rfl, by kernel_rfl, by kernel_rfl⟩ rfl (by (exact s0)) (fun _ _ _ _ h => h) (by (apply Run.load; exact rfl; exact LoadOK.oldAgg (vs := [.int .i64 tp.n, vo, vl]) T.agg_25 rfl hR.ag (by simp))) ?_)); all_goals (refine Goal.ready1 (i := 14) (by kernel_rfl) ?_); all_goals ((refine Goal.up (i := 14) (listed' := #[Ya,Ya,Ya,Ya,Ya,Ya,Ya,Ya,Ya,Ya,Ya,Ya,Ya,Ya,Ya,No,No]) rfl (by kernel_rfl) ?_; (apply Loud.call0; exact rfl; exact rfl; exact rfl; exact rfl; exact T.bod_52; exact (fun w' H => cost_ok (hR.top.keep H.mod) har (by omega))); refine Goal.kept (by (exact s0)) ?_)); all_goals ((refine Goal.takeP (listed' := #[Ya,Ya,Ya,Ya,Ya,Ya,Ya,Ya,Ya,Ya,Ya,Ya,Ya,Ya,Ya,Ya,No]) 15 ⟨rfl, by kernel_rfl, by kernel_rfl, by kernel_rfl, by kernel_rfl⟩ rfl (fun _ _ _ _ h => h) (by intro _; (apply Run.add; exact rfl; exact rfl; exact IntWalk.i64_in _ (by omega))) ?_)); all_goals ((refine Goal.takeP (listed' := #[Ya,Ya,Ya,Ya,Ya,Ya,Ya,Ya,Ya,Ya,Ya,Ya,Ya,Ya,Ya,Ya,Ya]) 16 ⟨rfl, by kernel_rfl, by kernel_rfl, by kernel_rfl, by kernel_rfl⟩ rfl (fun _ _ _ _ h => h) (by intro _; exact Run.assign rfl) ?_)); all_goals (refine Goal.allUp (by kernel_rfl) ?_)) | (refine Goal.loud (o := ⟨some 26, _, _, _, _, _⟩) rfl ?_; apply Loud.call0; exact rfl; exact rfl; exact rfl; exact rfl; exact T.bod_50; exact (fun w' H => head_ok (hR.top.keep H.mod) har (by omega))) | (refine Goal.loud (o := ⟨some 30, _, _, _, _, _⟩) rfl ?_; apply Loud.call0; exact rfl; exact rfl; exact rfl; exact rfl; exact T.bod_51; exact (fun w' H => usable_ok (hR.keep H.mod) hS har); rw [decide_eq_true hus]) | (apply G.move; exact rfl; exact rfl) | (apply G.assign; exact rfl; exact rfl) | refine Goal.seq (fun _ _ => ?_) | refine Goal.next (by assumption) ?_ | refine Goal.lnil ?_ | refine Goal.region ?_ | refine Goal.skip ?_ | refine Goal.block ?_ | refine Goal.exit ?_ | refine Goal.then_exit ?_ | refine Goal.inBlock_exit ?_ | refine Goal.inBlock_normal ?_ | (apply Goal.condT; exact rfl) | (apply Goal.condF; exact rfl) | (refine Goal.condD rfl (fun hc => ?_) (fun hc => ?_) <;> first | (exfalso; omega) | skip) | refine Goal.guardT rfl rfl ?_ | refine Goal.guardF rfl rfl rfl rfl ?_ | (refine Goal.guardD rfl rfl (fun hc => ?_) (fun hc => ?_) <;> skip) | (apply G.fieldAddr; exact rfl; exact rfl; (first | exact T.fld_100_0 | exact T.fld_100_4 | exact T.fld_77_0 | exact T.fld_77_3)) | (apply G.load; exact rfl; exact rfl; first | exact LoadOK.oldAgg (vs := [.int .i64 tp.n, vo, vl]) T.agg_25 rfl hR.ag (by simp) | exact LoadOK.old T.one_46 hR.cs (by simp) | exact LoadOK.old T.one_3 hc3 (by simp) | exact LoadOK.old T.one_3 hcs (by simp) | ((refine LoadOK.one ?_ 0 rfl rfl); first | exact T.one_30 | exact T.one_98)) | (apply G.pickT; exact rfl; exact rfl; exact rfl) | (apply G.pickF; exact rfl; exact rfl; exact rfl) | (apply G.lss; exact rfl; exact rfl; exact rfl) | (apply G.add; exact rfl; exact rfl; exact rfl; exact IntWalk.i64_in _ (by omega)) | (apply G.notT; exact rfl; exact rfl) | (refine Goal.quiet rfl (by exact Run.lookV (fun w' H => hlook w' H.mod) rfl rfl) ?_) | (apply G.nilCheckP; exact rfl; exact rfl) | (refine G.indexAddr1 rfl (by exact T.slc_46) (by exact T.sz_3) rfl rfl _ (Int.toNat_of_nonneg (by omega)).symm (by omega) ?_))
        all_goals first
          | (have hneg : ia l (tp.hd a) < 0 := by omega
             refine Goal.again ⟨i + 1, v⟩ ⟨by dsimp only; omega, hskip (.inl (fun hh => by omega))⟩ (by dsimp only; omega) ⟨rfl, rfl, rfl, rfl, rfl, rfl, trivial⟩ (fun _ h => h); done)
          | (have hge : 0 ≤ v ∧ v ≤ ia l (tp.hd a) + tp.co a := by omega
             refine Goal.again ⟨i + 1, v⟩ ⟨by dsimp only; omega, hskip (.inr hge)⟩ (by dsimp only; omega) ⟨rfl, rfl, rfl, rfl, rfl, rfl, trivial⟩ (fun _ h => h); done)
          | (refine Goal.again ⟨i + 1, ia l (tp.hd a) + tp.co a⟩ ⟨by dsimp only; omega, htake (ia l (tp.hd a) + tp.co a) rfl hus.1 hus.2 (by omega) hX (by omega) (by omega)⟩ (by dsimp only; omega) ⟨rfl, rfl, rfl, rfl, rfl, rfl, trivial⟩ (fun _ h => h); done)
      · rw [hX] at hlook
        repeat' (first | (refine Goal.loud (o := ⟨some 26, _, _, _, _, _⟩) rfl ?_; apply Loud.call0; exact rfl; exact rfl; exact rfl; exact rfl; exact T.bod_50; exact (fun w' H => head_ok (hR.top.keep H.mod) har (by omega))) | (refine Goal.loud (o := ⟨some 30, _, _, _, _, _⟩) rfl ?_; apply Loud.call0; exact rfl; exact rfl; exact rfl; exact rfl; exact T.bod_51; exact (fun w' H => usable_ok (hR.keep H.mod) hS har); rw [decide_eq_true hus]) | (apply G.move; exact rfl; exact rfl) | (apply G.assign; exact rfl; exact rfl) | refine Goal.seq (fun _ _ => ?_) | refine Goal.next (by assumption) ?_ | refine Goal.lnil ?_ | refine Goal.region ?_ | refine Goal.skip ?_ | refine Goal.block ?_ | refine Goal.exit ?_ | refine Goal.then_exit ?_ | refine Goal.inBlock_exit ?_ | (apply Goal.condT; exact rfl) | (refine Goal.condD rfl (fun hc => ?_) (fun hc => ?_) <;> first | (exfalso; omega) | skip) | refine Goal.guardT rfl rfl ?_ | refine Goal.guardF rfl rfl rfl rfl ?_ | (refine Goal.guardD rfl rfl (fun hc => ?_) (fun hc => ?_) <;> skip) | (apply G.fieldAddr; exact rfl; exact rfl; (first | exact T.fld_100_0 | exact T.fld_100_4 | exact T.fld_77_0 | exact T.fld_77_3)) | (apply G.load; exact rfl; exact rfl; first | exact LoadOK.oldAgg (vs := [.int .i64 tp.n, vo, vl]) T.agg_25 rfl hR.ag (by simp) | exact LoadOK.old T.one_46 hR.cs (by simp) | exact LoadOK.old T.one_3 hc3 (by simp) | exact LoadOK.old T.one_3 hcs (by simp) | ((refine LoadOK.one ?_ 0 rfl rfl); first | exact T.one_30 | exact T.one_98)) | (apply G.pickT; exact rfl; exact rfl; exact rfl) | (apply G.pickF; exact rfl; exact rfl; exact rfl) | (apply G.lss; exact rfl; exact rfl; exact rfl) | (apply G.add; exact rfl; exact rfl; exact rfl; exact IntWalk.i64_in _ (by omega)) | (apply G.notT; exact rfl; exact rfl) | (refine Goal.quiet rfl (by exact Run.lookV (fun w' H => hlook w' H.mod) rfl rfl) ?_) | (apply G.nilCheckP; exact rfl; exact rfl) | (refine G.indexAddr1 rfl (by exact T.slc_46) (by exact T.sz_3) rfl rfl _ (Int.toNat_of_nonneg (by omega)).symm (by omega) ?_))
        all_goals
          refine Goal.again ⟨i + 1, v⟩ ⟨by dsimp only; omega, hskip (.inl (fun hh => by rw [hX] at hh; exact absurd hh.2.2.2 (by decide)))⟩ (by dsimp only; omega) ⟨rfl, rfl, rfl, rfl, rfl, rfl, trivial⟩ (fun _ h => h)
    · skip
      repeat' (first | (refine Goal.loud (o := ⟨some 26, _, _, _, _, _⟩) rfl ?_; apply Loud.call0; exact rfl; exact rfl; exact rfl; exact rfl; exact T.bod_50; exact (fun w' H => head_ok (hR.top.keep H.mod) har (by omega))) | (refine Goal.loud (o := ⟨some 30, _, _, _, _, _⟩) rfl ?_; apply Loud.call0; exact rfl; exact rfl; exact rfl; exact rfl; exact T.bod_51; exact (fun w' H => usable_ok (hR.keep H.mod) hS har); rw [decide_eq_false hus]) | (apply G.move; exact rfl; exact rfl) | (apply G.assign; exact rfl; exact rfl) | refine Goal.seq (fun _ _ => ?_) | refine Goal.next (by assumption) ?_ | refine Goal.lnil ?_ | refine Goal.region ?_ | refine Goal.skip ?_ | refine Goal.block ?_ | refine Goal.exit ?_ | refine Goal.then_exit ?_ | refine Goal.inBlock_exit ?_ | (apply Goal.condT; exact rfl) | (refine Goal.condD rfl (fun hc => ?_) (fun hc => ?_) <;> first | (exfalso; omega) | skip) | refine Goal.guardF rfl rfl rfl rfl ?_ | (apply G.fieldAddr; exact rfl; exact rfl; (first | exact T.fld_100_0 | exact T.fld_77_0)) | (apply G.load; exact rfl; exact rfl; first | exact LoadOK.oldAgg (vs := [.int .i64 tp.n, vo, vl]) T.agg_25 rfl hR.ag (by simp) | exact LoadOK.old T.one_3 hc3 (by simp) | ((refine LoadOK.one ?_ 0 rfl rfl); exact T.one_30)) | (apply G.pickT; exact rfl; exact rfl; exact rfl) | (apply G.lss; exact rfl; exact rfl; exact rfl) | (apply G.add; exact rfl; exact rfl; exact rfl; exact IntWalk.i64_in _ (by omega)) | (apply G.notF; exact rfl; exact rfl) | (apply G.nilCheckP; exact rfl; exact rfl) | (refine G.indexAddr1 rfl (by exact T.slc_46) (by exact T.sz_3) rfl rfl _ (Int.toNat_of_nonneg (by omega)).symm (by omega) ?_))
      refine Goal.again ⟨i + 1, v⟩ ⟨by dsimp only; omega, hskip (.inl (fun hh => hus ⟨hh.1, hh.2.1⟩))⟩ (by dsimp only; omega) ⟨rfl, rfl, rfl, rfl, rfl, rfl, trivial⟩ (fun _ h => h)
  · obtain hil : i = (arcsAt tp.tl tp.arcs.toNat x).length := by omega
    subst hil
    repeat' (first | (apply G.move; exact rfl; exact rfl) | (apply G.assign; exact rfl; exact rfl) | refine Goal.seq (fun _ _ => ?_) | refine Goal.next (by assumption) ?_ | refine Goal.lnil ?_ | refine Goal.region ?_ | refine Goal.exit ?_ | refine Goal.ret ?_ | refine Goal.then_exit ?_ | refine Goal.inBlock_exit ?_ | (refine Goal.condD rfl (fun hc => ?_) (fun hc => ?_) <;> first | (exfalso; omega) | skip) | (apply G.lss; exact rfl; exact rfl; exact rfl))
    refine Goal.done (vs := [_]) (by first | exact .inl rfl | exact .inr rfl) Try.results89 ⟨rfl, trivial⟩ rfl (fun w' H => ⟨v, hB.all ht, rfl, H.mod⟩)
end
end Go.Proofs.Ythhhegmhgheeiaa
