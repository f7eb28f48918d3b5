/- Package ispf: what is read in any later world; the nodes that lose their distances. -/
import Derived.Test.YthhhegmhgheeiaaIsA
namespace Go.Wf
section
variable {P : Program} {w0 : World} {S : List Nat} {L : List Blk} {T : TypeId} {b off : Nat}
theorem LoadOK.anyQ {v : Value} (hT : OneB P T) (h : ∀ w', Mod S w0 w' → w'.cell? ⟨b, off, none⟩ = some v) : LoadOK P w0 S L T ⟨b, off, none⟩ v := .of fun w' H => load_one hT (h w' H.mod)
theorem LoadOK.anyA {m : Nat} {vs : List Value} (hT : AggB P T m) (hm : vs.length = m) (h : ∀ w', Mod S w0 w' → ∀ j v, vs[j]? = some v → w'.cell? ⟨b, off + j, none⟩ = some v) : LoadOK P w0 S L T ⟨b, off, none⟩ (.agg vs.toArray) :=
  .of fun w' H => load_agg hT hm fun j v hv => by rw [add_mk]; exact h w' H.mod j v hv
end
/-- A list of numbers that is only read, in any later world. -/
theorem rd_anyI {w0 : World} {S : List Nat} {ad : Option Addr} {c : Nat} {l : List Int} (h : ∀ w', Mod S w0 w' → RdV w' (.slice ad l.length c) (ints l)) (hp : 0 < l.length) : ∃ b o, ad = some ⟨b, o, none⟩ ∧ ∀ i : Int, 0 ≤ i → i < l.length → ∀ w', Mod S w0 w' → w'.cell? ⟨b, o + i.toNat, none⟩ = some (.int .i64 (ia l i)) := by
  obtain ⟨b, o, rfl, _⟩ := rd_nums (h w0 (Mod.refl _ _)) hp
  refine ⟨b, o, rfl, fun i i0 i1 w' hm => ?_⟩
  obtain ⟨b', o', e, hk⟩ := rd_nums (h w' hm) hp
  injection e with e
  injection e with e1 e2 _
  subst e1 e2
  exact hk i i0 i1
/-- A slice of slices of numbers, by its elements. -/
structure LLR (w : World) (b : Nat) (vs : List Value) (ls : List (List Int)) : Prop where
  len : vs.length = ls.length
  at_ : ∀ i : Nat, ∀ h : i < ls.length, ∃ u, vs[i]? = some u ∧ w.cell? ⟨b, i, none⟩ = some u ∧ RdV w u (ints ls[i])
theorem LLR.rd {w : World} {b cap : Nat} {vs : List Value} {ls : List (List Int)} (h : LLR w b vs ls) : RdLL w (.slice (some ⟨b, 0, none⟩) ls.length cap) ls := ⟨b, cap, vs, rfl, h.len, h.at_⟩
theorem LLR.of_own {w : World} {E b T : Nat} {vs : List Value} {ls : List (List Int)} {B : List Blk} (h : InnI E vs ls B) (ho : Own w ((b, .cells vs.toArray T) :: B)) : LLR w b vs ls := by
  refine ⟨h.len, fun i hi => ?_⟩
  obtain ⟨u, h1, h2⟩ := h.rd ho.2 hi
  exact ⟨u, h1, cell_of_blk ho.1 (by simpa using h1), h2⟩
/-- One of them, in any later world. -/
theorem LLR.any {w0 : World} {S : List Nat} {b : Nat} {vs : List Value} {ls : List (List Int)} (h : ∀ w', Mod S w0 w' → LLR w' b vs ls) {i : Nat} (hi : i < ls.length) : ∃ ad c, ∀ w', Mod S w0 w' → w'.cell? ⟨b, i, none⟩ = some (.slice ad ls[i].length c) ∧ RdV w' (.slice ad ls[i].length c) (ints ls[i]) := by
  obtain ⟨u, h1, h2, h3⟩ := (h w0 (Mod.refl _ _)).at_ i hi
  obtain ⟨ad, c, rfl, _⟩ := id h3
  rw [ints_len] at h1
  refine ⟨ad, c, fun w' hm => ?_⟩
  obtain ⟨u', g1, g2, g3⟩ := (h w' hm).at_ i hi
  rw [h1] at g1
  injection g1 with g1
  subst g1
  exact ⟨g2, g3⟩
theorem rdr {w0 w : World} {S : List Nat} {L : List Blk} (H : St w0 S w L) {b E c : Nat} {l : List Int} {rest : List Value} (hb : (b, Obj.cells (ints l ++ rest).toArray E) ∈ L) : RdV w (.slice (some ⟨b, 0, none⟩) l.length c) (ints l) := by
  refine ⟨some ⟨b, 0, none⟩, c, by rw [ints_len], fun i u hi => ⟨b, 0, rfl, cell_of_blk (H.get hb) ?_⟩⟩
  have hlt : i < (ints l).length := (List.getElem?_eq_some_iff.mp hi).1
  simp [List.getElem?_append_left hlt, hi]
end Go.Wf
namespace Go.Proofs.Ythhhegmhgheeiaa
open Go.Wf
set_option linter.unusedVariables false
theorem SetR.own {w0 w : World} {S : List Nat} {L : List Blk} (H : St w0 S w L) {b c : Nat} {l : List (Int × Nat)} (hb : (b, bobj l c) ∈ L) : SetR w 98 (.map (some b)) (bhas l) := fun w' hm key => run_lookup_ib T.mapb_98 (hm.blk (H.get hb) (by simp)) key
structure L1 where
  (i : Int) (m : Int → Option Int) (A : List Blk)
structure L2 where
  (m : Int → Option Int) (top : Int) (X : List (Int × Nat)) (c : Nat) (A : List Blk)
structure L3 where
  (i : Int) (l : List Int)
structure LZ where
  (top : Int) (X : List (Int × Nat)) (c : Nat) (l : List Int)
section
variable {w : World} {S : List Nat} {bx bs bm bL bE cs cL cE cv : Nat} {tp : Top} {dn : List Bool} {d : Int} {vo vl vd : Value} {av : Option Addr} {l ch : List Int} {rest vsL vsE : List Value}
set_option maxHeartbeats 16000000 in
theorem lose_ok (hS : TrS tp dn d) (hll : (l.length : Int) = tp.n) (hbd : ∀ y, 0 ≤ y → y < tp.n → -1 ≤ ia l y ∧ ia l y ≤ 1000000000)
    (H0 : St w S w [(bs, .cells (ints l ++ rest).toArray 3), (bm, bobj [] 0)]) (hR : ∀ w', Mod S w w' → TrC w' bx tp dn d vo vl vd (.slice (some ⟨bs, 0, none⟩) l.length cs))
    (hv : ∀ w', Mod S w w' → RdV w' (.slice av ch.length cv) (ints ch)) (hch : ∀ a ∈ ch, 0 ≤ a ∧ a < tp.arcs) (hcl : ch.length ≤ 1048576)
    (hL : ∀ w', Mod S w w' → LLR w' bL vsL (adjL tp.tl tp.n.toNat tp.arcs.toNat)) (hE : ∀ w', Mod S w w' → LLR w' bE vsE (adjL tp.hd tp.n.toNat tp.arcs.toNat))
    (hB : Los tp.n d (GD tp dn d) (ia l) (fun _ => none) 0 (fun _ => false) (fun x => ∃ a ∈ ch, tp.tl a = x)) :
    Calls Try.prog 73 #[.agg #[.pointer (some ⟨bx, 0, none⟩), .slice av ch.length cv, .slice (some ⟨bL, 0, none⟩) (adjL tp.tl tp.n.toNat tp.arcs.toNat).length cL, .slice (some ⟨bE, 0, none⟩) (adjL tp.hd tp.n.toNat tp.arcs.toNat).length cE, .map (some bm)]] w
      fun e w' => ∃ z : LZ, (Los tp.n d (GD tp dn d) (ia l) (fun _ => none) z.top (bhas z.X) (fun _ => False) ∧ z.l.length = l.length ∧ ∀ x, 0 ≤ x → x < tp.n → ia z.l x = if bhas z.X x = true then -1 else ia l x) ∧ e = .returned (.tuple #[]) ∧ St w S w' [(bs, .cells (ints z.l ++ rest).toArray 3), (bm, bobj z.X z.c)] := by
  have ht := hS.ok
  have hn := ht.n
  have hln := ht.ln
  have har0 : tp.arcs = 2 * (tp.ls.length : Int) := rfl
  have hk := GD.ok (dn := dn) (d := d) ht
  refine Goal.enter (args := [.agg #[.pointer (some ⟨bx, 0, none⟩), .slice av ch.length cv, .slice (some ⟨bL, 0, none⟩) (adjL tp.tl tp.n.toNat tp.arcs.toNat).length cL, .slice (some ⟨bE, 0, none⟩) (adjL tp.hd tp.n.toNat tp.arcs.toNat).length cE, .map (some bm)]]) Try.func73 rfl Try.ntmps73 rfl (H0) ?_
  repeat' (first | (refine Goal.loud (o := ⟨some 22, _, _, _, _, _⟩) rfl ?_; apply Loud.callN; exact rfl; exact rfl; exact rfl; exact rfl; exact T.bod_83; exact (fun w' H => new_ok tp.n (by omega) w'); rintro ⟨bh, bk, bp, A1⟩ g1; dsimp only at g1 ⊢) | (refine Goal.loud (o := ⟨some 1, _, _, _, _, _⟩) rfl ?_; refine Loud.boxA rfl rfl (fun b1 => ?_)) | (apply G.move; exact rfl; exact rfl) | (apply G.assign; exact rfl; exact rfl) | refine Goal.seq (fun _ _ => ?_) | refine Goal.next (by assumption) ?_ | refine Goal.lnil ?_ | refine Goal.region ?_ | refine Goal.block ?_ | (apply G.fieldAddr; exact rfl; exact rfl; (first | exact T.fld_100_0 | exact T.fld_100_1 | exact T.fld_25_0 | exact T.fld_77_0)) | (apply G.load; exact rfl; exact rfl; first | exact LoadOK.anyQ T.one_3 (fun w' hm => (hR w' hm).ag 0 _ rfl) | ((refine LoadOK.one ?_ 0 rfl rfl); first | exact T.one_30 | exact T.one_46)) | (apply G.extract; exact rfl; exact rfl; exact rfl) | (apply G.len; exact rfl; exact rfl; exact T.slc_46) | (apply G.nilCheckP; exact rfl; exact rfl))
  refine Goal.loopP (X := L1) (fun x => [(1, .pointer (some ⟨b1, 0, none⟩)), (2, .pointer (some ⟨bh, 0, none⟩)), (26, .slice av ch.length cv), (27, .int .i64 ch.length), (28, .int .i64 x.i)])
    (fun x => (b1, .cells #[.pointer (some ⟨bx, 0, none⟩), .slice av ch.length cv, .slice (some ⟨bL, 0, none⟩) (adjL tp.tl tp.n.toNat tp.arcs.toNat).length cL, .slice (some ⟨bE, 0, none⟩) (adjL tp.hd tp.n.toNat tp.arcs.toNat).length cE, .map (some bm)] 100) :: (bs, .cells (ints l ++ rest).toArray 3) :: (bm, bobj [] 0) :: x.A)
    (fun x => (0 ≤ x.i ∧ x.i ≤ ch.length) ∧ HpA bh bk bp tp.n.toNat x.m x.A ∧ Los tp.n d (GD tp dn d) (ia l) x.m 0 (fun _ => false) (fun y => ∃ a ∈ ch.drop x.i.toNat, tp.tl a = y)) (fun x => (ch.length - x.i).toNat) ⟨0, fun _ => none, A1⟩ ⟨rfl, rfl, rfl, rfl, rfl, trivial⟩ (fun _ h => h) ⟨by dsimp only; omega, g1, by simpa using hB⟩ ?_
  clear g1 hB A1
  rintro ⟨i, m, A⟩ ⟨hi, hA, hB⟩
  dsimp only at hi hA hB ⊢
  by_cases h : i < ch.length
  · obtain ⟨ba, oa, rfl, hka⟩ := rd_anyI hv (by omega)
    have hca := hka i hi.1 h
    have har := hch _ (mem_ia (l := ch) (i := i) ⟨hi.1, h⟩)
    have hdr : ch.drop i.toNat = ia ch i :: ch.drop (i + 1).toNat := by
      rw [List.drop_eq_getElem_cons (by omega), ia_at ⟨hi.1, h⟩, show (i + 1).toNat = i.toNat + 1 by omega]
    generalize haa : ia ch i = a at hca har hdr
    obtain ⟨hta, _, _, _⟩ := ht.arc har
    have hwk : ∀ x, 0 ≤ x → x < tp.n → ((∃ b ∈ ch.drop i.toNat, tp.tl b = x) ∧ x ≠ tp.tl a) → ∃ b ∈ ch.drop (i + 1).toNat, tp.tl b = x := fun x _ _ ⟨⟨b, hb, e⟩, hne⟩ => by
      rw [hdr] at hb
      rcases List.mem_cons.1 hb with rfl | hb
      · exact absurd e.symm hne
      · exact ⟨b, hb, e⟩
    repeat' (first | (refine Goal.loud (o := ⟨some 38, _, _, _, _, _⟩) rfl ?_; apply Loud.call0; exact rfl; exact rfl; exact rfl; exact rfl; exact T.bod_68; exact (fun w' H => tail_ok (hR w' H.mod).top har (by omega))) | (refine Goal.loud (o := ⟨some 67, _, _, _, _, _⟩) rfl ?_; refine Loud.callE ([_, _, _]) (set_ok hA (by omega) (tp.tl a) (ia l (tp.tl a))) rfl rfl rfl rfl T.bod_84 (fun _ h => h) ?_; intro A2 g2; rw [if_pos (by omega)] at g2 ⊢) | (apply G.move; exact rfl; exact rfl) | (apply G.assign; exact rfl; exact rfl) | refine Goal.seq (fun _ _ => ?_) | refine Goal.next (by assumption) ?_ | refine Goal.lnil ?_ | refine Goal.region ?_ | refine Goal.skip ?_ | refine Goal.block ?_ | refine Goal.inBlock_normal ?_ | (apply Goal.condF; exact rfl) | (refine Goal.condD rfl (fun hc => ?_) (fun hc => ?_) <;> first | (exfalso; omega) | skip) | refine Goal.guardT rfl rfl ?_ | refine Goal.guardF rfl rfl rfl rfl ?_ | (refine Goal.guardD rfl rfl (fun hc => ?_) (fun hc => ?_) <;> skip) | (apply G.fieldAddr; exact rfl; exact rfl; (first | exact T.fld_100_0 | exact T.fld_77_0 | exact T.fld_77_2 | exact T.fld_77_3)) | (apply G.load; exact rfl; exact rfl; first | exact LoadOK.anyQ T.one_3 hca | exact LoadOK.anyA (vs := [.int .i64 tp.n, vo, vl]) T.agg_25 rfl (fun w' hm => (hR w' hm).ag) | exact LoadOK.anyQ T.one_3 (fun w' hm => (hR w' hm).cr) | exact LoadOK.anyQ T.one_46 (fun w' hm => (hR w' hm).cs) | exact LoadOK.iaMe (b := bs) (l := l) (rest := rest) (E := 3) (i := tp.tl a) (x := ia l (tp.tl a)) T.one_3 (by simp) (by omega) rfl | ((refine LoadOK.one ?_ 0 rfl rfl); exact T.one_30)) | (apply G.pickT; exact rfl; exact rfl; exact rfl) | (apply G.pickF; exact rfl; exact rfl; exact rfl) | (apply G.lss; exact rfl; exact rfl; exact rfl) | (apply G.geq; exact rfl; exact rfl; exact rfl) | (apply G.neq; exact rfl; exact rfl; exact rfl) | (apply G.add; exact rfl; exact rfl; exact rfl; exact IntWalk.i64_in _ (by omega)) | (apply G.nilCheckP; exact rfl; exact rfl) | (refine G.indexAddr1 rfl (by exact T.slc_46) (by exact T.sz_3) rfl rfl _ (Int.toNat_of_nonneg (by omega)).symm (by omega) ?_))
    all_goals first
      | (refine Goal.again ⟨i + 1, upd m (tp.tl a) (some (ia l (tp.tl a))), A2⟩ ⟨by dsimp only; omega, g2, (hB.put hta (by omega) (by omega) rfl (by omega)).weak hwk⟩ (by dsimp only; omega) ⟨rfl, rfl, rfl, rfl, rfl, trivial⟩ (fun _ h => h); done)
      | (refine Goal.again ⟨i + 1, m, A⟩ ⟨by dsimp only; omega, hA, (hB.pass (x0 := tp.tl a) (by omega)).weak hwk⟩ (by dsimp only; omega) ⟨rfl, rfl, rfl, rfl, rfl, trivial⟩ (fun _ h => h); done)
  · obtain hil : i = ch.length := by omega
    subst hil
    rw [show ch.drop ((ch.length : Int)).toNat = [] by simp] at hB
    have hB0 : Los tp.n d (GD tp dn d) (ia l) m 0 (bhas []) (fun _ => False) := hB.weak fun x _ _ ⟨b, hb, _⟩ => by cases hb
    clear hB
    repeat' (first | refine Goal.seq (fun _ _ => ?_) | refine Goal.next (by assumption) ?_ | refine Goal.lnil ?_ | refine Goal.region ?_ | refine Goal.block ?_ | refine Goal.exit ?_ | refine Goal.then_exit ?_ | refine Goal.inBlock_exit ?_ | (refine Goal.condD rfl (fun hc => ?_) (fun hc => ?_) <;> first | (exfalso; omega) | skip) | (apply G.lss; exact rfl; exact rfl; exact rfl))
    refine Goal.loopP (X := L2) (fun x => [(1, .pointer (some ⟨b1, 0, none⟩)), (2, .pointer (some ⟨bh, 0, none⟩))])
      (fun x => (b1, .cells #[.pointer (some ⟨bx, 0, none⟩), .slice av ch.length cv, .slice (some ⟨bL, 0, none⟩) (adjL tp.tl tp.n.toNat tp.arcs.toNat).length cL, .slice (some ⟨bE, 0, none⟩) (adjL tp.hd tp.n.toNat tp.arcs.toNat).length cE, .map (some bm)] 100) :: (bs, .cells (ints l ++ rest).toArray 3) :: (bm, bobj x.X x.c) :: x.A)
      (fun x => HpA bh bk bp tp.n.toNat x.m x.A ∧ Los tp.n d (GD tp dn d) (ia l) x.m x.top (bhas x.X) (fun _ => False)) (fun x => muL tp.n.toNat (ia l) x.m x.top) ⟨m, 0, [], 0, A⟩ ⟨rfl, rfl, trivial⟩ (fun _ h => h) ⟨hA, hB0⟩ ?_
    clear hB0 hA
    rintro ⟨m, top, X, c, A⟩ ⟨hA, hB⟩
    dsimp only at hA hB ⊢
    repeat' (first | (refine Goal.loud (o := ⟨some 71, _, _, _, _, _⟩) rfl ?_; refine Loud.callE ([_, _, _]) (pop_ok hA (by omega)) rfl rfl rfl rfl T.bod_85 (fun _ h => h) ?_; rintro ⟨y, k, ok, A3⟩ ⟨hp, h3⟩; dsimp only at hp h3 ⊢; rcases hp with ⟨rfl, rfl, rfl, hno⟩ | ⟨rfl, y0, y1, hmy, hmin⟩) | (refine Goal.cut (x := Code.seq (Code.region 11 _ _) _) (X := Int) (fun _ => [(1, .pointer (some ⟨b1, 0, none⟩)), (2, .pointer (some ⟨bh, 0, none⟩)), (7, .int .i64 y), (8, .int .i64 k)]) (fun _ => (b1, .cells #[.pointer (some ⟨bx, 0, none⟩), .slice av ch.length cv, .slice (some ⟨bL, 0, none⟩) (adjL tp.tl tp.n.toNat tp.arcs.toNat).length cL, .slice (some ⟨bE, 0, none⟩) (adjL tp.hd tp.n.toNat tp.arcs.toNat).length cE, .map (some bm)] 100) :: (bs, .cells (ints l ++ rest).toArray 3) :: (bm, bobj X c) :: A3) (fun b => BestP (GD tp dn d) (ia l) (bhas X) y b ∧ ¬ (0 ≤ b ∧ b ≤ k)) ?_ ?_) | (apply G.move; exact rfl; exact rfl) | (apply G.assign; exact rfl; exact rfl) | refine Goal.seq (fun _ _ => ?_) | refine Goal.next (by assumption) ?_ | refine Goal.lnil ?_ | refine Goal.region ?_ | refine Goal.skip ?_ | refine Goal.block ?_ | refine Goal.exit ?_ | refine Goal.then_exit ?_ | refine Goal.inBlock_exit ?_ | refine Goal.inBlock_other rfl ?_ | (apply Goal.condT; exact rfl) | (apply Goal.condF; exact rfl) | (apply G.fieldAddr; exact rfl; exact rfl; (first | exact T.fld_100_0 | exact T.fld_77_3)) | (apply G.load; exact rfl; exact rfl; first | exact LoadOK.anyQ T.one_46 (fun w' hm => (hR w' hm).cs) | ((refine LoadOK.one ?_ 0 rfl rfl); exact T.one_30)) | (apply G.notT; exact rfl; exact rfl) | (apply G.notF; exact rfl; exact rfl) | (apply G.extract; exact rfl; exact rfl; exact rfl) | (apply G.len; exact rfl; exact rfl; exact T.slc_46) | (apply G.nilCheckP; exact rfl; exact rfl))
    · have hB1 : Los tp.n d (GD tp dn d) (ia l) (fun _ => none) top (bhas X) (fun _ => False) := by
        refine ⟨fun x k _ _ h => (by cases h), hB.lost, fun x x0 x1 a b e => ?_⟩
        rcases hB.sup x x0 x1 a b e with g | g | g
        · rw [hno x x0 (by omega)] at g; cases g
        · exact .inr (.inl g)
        · exact g.elim
      refine Goal.loopP (X := L3) (fun x => [(1, .pointer (some ⟨b1, 0, none⟩)), (143, .int .i64 l.length), (144, .int .i64 x.i)])
        (fun x => (b1, .cells #[.pointer (some ⟨bx, 0, none⟩), .slice av ch.length cv, .slice (some ⟨bL, 0, none⟩) (adjL tp.tl tp.n.toNat tp.arcs.toNat).length cL, .slice (some ⟨bE, 0, none⟩) (adjL tp.hd tp.n.toNat tp.arcs.toNat).length cE, .map (some bm)] 100) :: (bs, .cells (ints x.l ++ rest).toArray 3) :: (bm, bobj X c) :: A3)
        (fun x => (0 ≤ x.i ∧ x.i ≤ l.length) ∧ x.l.length = l.length ∧ ∀ y, 0 ≤ y → y < tp.n → ia x.l y = if y < x.i ∧ bhas X y = true then -1 else ia l y) (fun x => (l.length - x.i).toNat) ⟨0, l⟩ ⟨rfl, rfl, rfl, trivial⟩ (fun _ h => h)
        ⟨by dsimp only; omega, rfl, fun y y0 y1 => by dsimp only; rw [if_neg (by omega)]⟩ ?_
      rintro ⟨i, l2⟩ ⟨hi, hl2, h2⟩
      dsimp only at hi hl2 h2 ⊢
      by_cases h : i < l.length
      · cases hx : bhas X i
        · skip
          repeat' (first | (apply G.move; exact rfl; exact rfl) | (apply G.assign; exact rfl; exact rfl) | refine Goal.seq (fun _ _ => ?_) | refine Goal.next (by assumption) ?_ | refine Goal.lnil ?_ | refine Goal.region ?_ | refine Goal.skip ?_ | refine Goal.block ?_ | refine Goal.inBlock_normal ?_ | (apply Goal.condF; exact rfl) | (refine Goal.condD rfl (fun hc => ?_) (fun hc => ?_) <;> first | (exfalso; omega) | skip) | (apply G.fieldAddr; exact rfl; exact rfl; (exact T.fld_100_4)) | (apply G.load; exact rfl; exact rfl; ((refine LoadOK.one ?_ 0 rfl rfl); exact T.one_98)) | (apply G.lss; exact rfl; exact rfl; exact rfl) | (apply G.add; exact rfl; exact rfl; exact rfl; exact IntWalk.i64_in _ (by omega)) | (refine Goal.quiet rfl (by exact (hx ▸ Run.lookB T.mapb_98 (l := X) (b := bm) (c := c) (key := i) (by simp) rfl rfl)) ?_))
          refine Goal.again ⟨i + 1, l2⟩ ⟨by dsimp only; omega, hl2, fun y y0 y1 => ?_⟩ (by dsimp only; omega) ⟨rfl, rfl, rfl, trivial⟩ (fun _ h => h)
          dsimp only
          rw [h2 y y0 y1]
          by_cases e : y = i
          · subst e; rw [hx]; simp
          · have : (y < i + 1) ↔ y < i := by omega
            simp only [this]
        · skip
          repeat' (first | (apply G.move; exact rfl; exact rfl) | (apply G.assign; exact rfl; exact rfl) | refine Goal.seq (fun _ _ => ?_) | refine Goal.next (by assumption) ?_ | refine Goal.lnil ?_ | refine Goal.region ?_ | refine Goal.skip ?_ | refine Goal.block ?_ | refine Goal.inBlock_normal ?_ | (apply Goal.condT; exact rfl) | (refine Goal.condD rfl (fun hc => ?_) (fun hc => ?_) <;> first | (exfalso; omega) | skip) | (apply G.fieldAddr; exact rfl; exact rfl; (first | exact T.fld_100_0 | exact T.fld_100_4 | exact T.fld_77_3)) | (apply G.load; exact rfl; exact rfl; first | exact LoadOK.anyQ T.one_46 (fun w' hm => (hR w' hm).cs) | ((refine LoadOK.one ?_ 0 rfl rfl); first | exact T.one_30 | exact T.one_98)) | (apply G.lss; exact rfl; exact rfl; exact rfl) | (apply G.add; exact rfl; exact rfl; exact rfl; exact IntWalk.i64_in _ (by omega)) | (refine Goal.quiet rfl (by exact (hx ▸ Run.lookB T.mapb_98 (l := X) (b := bm) (c := c) (key := i) (by simp) rfl rfl)) ?_) | (apply G.nilCheckP; exact rfl; exact rfl) | (refine G.indexAddr1 rfl (by exact T.slc_46) (by exact T.sz_3) rfl rfl _ (Int.toNat_of_nonneg (by omega)).symm (by omega) ?_) | (refine Goal.loud rfl ?_; refine Loud.store1 rfl rfl T.sz_3 rfl rfl rfl (by rw [List.size_toArray, List.length_append, ints_len]; omega) (wr_intsR (by omega)) ?_))
          refine Goal.again ⟨i + 1, l2.set i.toNat (-1)⟩ ⟨by dsimp only; omega, by simp [hl2], fun y y0 y1 => ?_⟩ (by dsimp only; omega) ⟨rfl, rfl, rfl, trivial⟩ (fun _ h => h)
          dsimp only
          rw [ia_upd (by omega) (by omega), h2 y y0 y1]
          by_cases e : i = y
          · subst e; rw [if_pos rfl, if_pos ⟨by omega, hx⟩]
          · have : (y < i + 1) ↔ y < i := by omega
            rw [if_neg e]
            simp only [this]
      · obtain hil : i = l.length := by omega
        subst hil
        repeat' (first | refine Goal.seq (fun _ _ => ?_) | refine Goal.next (by assumption) ?_ | refine Goal.lnil ?_ | refine Goal.region ?_ | refine Goal.exit ?_ | refine Goal.then_exit ?_ | refine Goal.inBlock_exit ?_ | (refine Goal.condD rfl (fun hc => ?_) (fun hc => ?_) <;> first | (exfalso; omega) | skip) | (apply G.lss; exact rfl; exact rfl; exact rfl))
        refine Goal.done (vs := []) (by first | exact .inl rfl | exact .inr rfl) Try.results73 trivial rfl (fun w' H => ⟨⟨top, X, c, l2⟩, ⟨hB1, hl2, fun x x0 x1 => ?_⟩, rfl, (H.sub (List.sublist_cons_self _ _)).left (R := A3) (L := [_, _])⟩)
        dsimp only
        rw [h2 x x0 x1]
        have : x < (l.length : Int) := by omega
        simp only [this, true_and]
    · have hyl : y < tp.n := by omega
      have hy : 0 ≤ y ∧ y < tp.n := ⟨y0, hyl⟩
      have hmin' : ∀ x k', 0 ≤ x → x < tp.n → m x = some k' → k ≤ k' := fun x k' x0 x1 hx => by
        have := hmin x k' x0 (by omega) hx
        omega
      obtain ⟨hkD, hD0, hyd, hXy, htop⟩ := hB.key y k y0 hyl hmy
      rw [if_pos rfl] at h3
      intro K hk2
      repeat' (first | (refine Goal.loud (o := ⟨some 79, _, _, _, _, _⟩) rfl ?_; refine Loud.callV (X := Int) (p := fun v => BestP (GD tp dn d) (ia l) (bhas X) y v) (val := fun v => .int .i64 v) rfl rfl rfl rfl T.bod_89 (fun w' H => best_ok (hR w' H.mod) hS (rdr (b := bs) (l := l) (rest := rest) (E := 3) H (by simp)) hll hbd (hL w' H.mod).rd (SetR.own (b := bm) (l := X) (c := c) H (by simp)) hy) ?_; intro b hb) | (apply G.move; exact rfl; exact rfl) | (apply G.assign; exact rfl; exact rfl) | refine Goal.seq (fun _ _ => ?_) | refine Goal.next (by assumption) ?_ | refine Goal.lnil ?_ | refine Goal.region ?_ | refine Goal.skip ?_ | refine Goal.exit ?_ | refine Goal.then_exit ?_ | refine Goal.inBlock_exit ?_ | (apply Goal.condF; exact rfl) | (refine Goal.condD rfl (fun hc => ?_) (fun hc => ?_) <;> skip) | refine Goal.guardT rfl rfl ?_ | refine Goal.guardF rfl rfl rfl rfl ?_ | (refine Goal.guardD rfl rfl (fun hc => ?_) (fun hc => ?_) <;> skip) | (apply G.load; exact rfl; exact rfl; exact LoadOK.agg (vs := [_, _, _, _, _]) T.agg_100 0 rfl rfl ⟨rfl, rfl, rfl, rfl, rfl, trivial⟩) | (apply G.pickT; exact rfl; exact rfl; exact rfl) | (apply G.pickF; exact rfl; exact rfl; exact rfl) | (apply G.leq; exact rfl; exact rfl; exact rfl) | (apply G.geq; exact rfl; exact rfl; exact rfl))
      all_goals first
          | exact Goal.meet hk2 b ⟨hb, by omega⟩ ⟨rfl, rfl, rfl, rfl, trivial⟩ (fun _ h => h)
          | (refine Goal.again ⟨upd m y none, k, X, c, A3⟩ ⟨h3, hB.keep hy hmy hmin' (by
              rcases hb.ex with e | ⟨z, q, g1, g2, g3, g4⟩
              · omega
              · exact ⟨z, q, g1, g2, g3, by omega⟩)⟩ (muL_lt (by omega) hmy hkD (by dsimp only; omega) fun x x0 x1 hx => .inl (by
                dsimp only [upd] at hx ⊢
                split at hx
                · cases hx
                · rename_i e; exact ⟨hx, e⟩)) ⟨rfl, rfl, trivial⟩ (fun _ h => h))
    · have hyl : y < tp.n := by omega
      have hy : 0 ≤ y ∧ y < tp.n := ⟨y0, hyl⟩
      have hmin' : ∀ x k', 0 ≤ x → x < tp.n → m x = some k' → k ≤ k' := fun x k' x0 x1 hx => by
        have := hmin x k' x0 (by omega) hx
        omega
      obtain ⟨hkD, hD0, hyd, hXy, htop⟩ := hB.key y k y0 hyl hmy
      rw [if_pos rfl] at h3
      have hlk := adjL_len tp.hd tp.n.toNat tp.arcs.toNat
      obtain ⟨au, cu, hau⟩ := LLR.any hE (i := y.toNat) (by rw [adjL_len]; omega)
      rw [adjL_at, Int.toNat_of_nonneg y0] at hau
      have hal := arcsAt_len tp.hd tp.arcs.toNat y
      have hcy := fun w' hm => (hau w' hm).1
      have hry := fun w' hm => (hau w' hm).2
      clear hau
      rintro b ⟨hb, hbn⟩
      have hL2 := (hB.lose hk hy hmy hmin').weak (P' := fun x => k < ia l x ∧ ∃ a ∈ (arcsAt tp.hd tp.arcs.toNat y).drop 0, tp.tl a = x) (fun x x0 x1 ⟨q1, q, a, ha, _, _, e3, e4, _⟩ => ⟨q1, a, by rw [List.drop_zero]; exact mem_arcsAt.2 ⟨by omega, e4.symm⟩, e3.symm⟩)
      rw [show (fun x => if x = y then true else bhas X x) = bhas (bput X c y) from funext fun x => (bhas_put X c y x).symm] at hL2
      have hmu : ∀ x, 0 ≤ x → x < tp.n → (upd m y none x).isSome = true → ((m x).isSome = true ∧ x ≠ y) ∨ k < ia l x := fun x x0 x1 hx => by
        unfold upd at hx
        split at hx
        · cases hx
        · rename_i e; exact .inl ⟨hx, e⟩
      repeat' (first | (apply G.move; exact rfl; exact rfl) | refine Goal.seq (fun _ _ => ?_) | refine Goal.next (by assumption) ?_ | refine Goal.lnil ?_ | refine Goal.region ?_ | refine Goal.block ?_ | (apply G.fieldAddr; exact rfl; exact rfl; (first | exact T.fld_100_3 | exact T.fld_100_4)) | (apply G.load; exact rfl; exact rfl; first | exact LoadOK.anyQ T.one_46 (by rw [Nat.zero_add]; exact hcy) | ((refine LoadOK.one ?_ 0 rfl rfl); first | exact T.one_83 | exact T.one_98)) | (apply G.len; exact rfl; exact rfl; exact T.slc_46) | (refine Goal.loud rfl ?_; refine Loud.putB 2 T.mapb_98 rfl rfl rfl rfl ?_) | (refine G.indexAddr1 rfl (by first | exact T.slc_46 | exact T.slc_83) (by first | exact T.sz_3 | exact T.sz_46) rfl rfl _ (Int.toNat_of_nonneg (by omega)).symm (by omega) ?_))
      refine Goal.loopP (X := L1) (fun x => [(1, .pointer (some ⟨b1, 0, none⟩)), (2, .pointer (some ⟨bh, 0, none⟩)), (8, .int .i64 k), (94, .slice au (arcsAt tp.hd tp.arcs.toNat y).length cu), (95, .int .i64 (arcsAt tp.hd tp.arcs.toNat y).length), (96, .int .i64 x.i)])
        (fun x => (b1, .cells #[.pointer (some ⟨bx, 0, none⟩), .slice av ch.length cv, .slice (some ⟨bL, 0, none⟩) (adjL tp.tl tp.n.toNat tp.arcs.toNat).length cL, .slice (some ⟨bE, 0, none⟩) (adjL tp.hd tp.n.toNat tp.arcs.toNat).length cE, .map (some bm)] 100) :: (bs, .cells (ints l ++ rest).toArray 3) :: (bm, bobj (bput X c y) (bclock X c y)) :: x.A)
        (fun x => (0 ≤ x.i ∧ x.i ≤ (arcsAt tp.hd tp.arcs.toNat y).length) ∧ HpA bh bk bp tp.n.toNat x.m x.A ∧ Los tp.n d (GD tp dn d) (ia l) x.m k (bhas (bput X c y)) (fun z => k < ia l z ∧ ∃ a ∈ (arcsAt tp.hd tp.arcs.toNat y).drop x.i.toNat, tp.tl a = z) ∧ ∀ z, 0 ≤ z → z < tp.n → (x.m z).isSome = true → ((m z).isSome = true ∧ z ≠ y) ∨ k < ia l z) (fun x => ((arcsAt tp.hd tp.arcs.toNat y).length - x.i).toNat) ⟨0, upd m y none, A3⟩ ⟨rfl, rfl, rfl, rfl, rfl, rfl, trivial⟩ (fun _ h => h) ⟨by dsimp only; omega, h3, hL2, hmu⟩ ?_
      clear h3 hL2 hmu A3 hb hbn b
      rintro ⟨j, m2, A⟩ ⟨hj, hA, hB2, hmu⟩
      dsimp only at hj hA hB2 hmu ⊢
      by_cases h : j < (arcsAt tp.hd tp.arcs.toNat y).length
      · obtain ⟨ba, oa, rfl, hka⟩ := rd_anyI hry (by omega)
        have hca := hka j hj.1 h
        obtain ⟨har1, hha⟩ := mem_arcsAt.1 (mem_ia (l := arcsAt tp.hd tp.arcs.toNat y) (i := j) ⟨hj.1, h⟩)
        have hdr : (arcsAt tp.hd tp.arcs.toNat y).drop j.toNat = ia (arcsAt tp.hd tp.arcs.toNat y) j :: (arcsAt tp.hd tp.arcs.toNat y).drop (j + 1).toNat := by
          rw [List.drop_eq_getElem_cons (by omega), ia_at ⟨hj.1, h⟩, show (j + 1).toNat = j.toNat + 1 by omega]
        generalize haa : ia (arcsAt tp.hd tp.arcs.toNat y) j = a at hca har1 hha hdr
        have har : 0 ≤ a ∧ a < tp.arcs := by omega
        obtain ⟨hta, _, _, _⟩ := ht.arc har
        have hwk : ∀ x, 0 ≤ x → x < tp.n → ((k < ia l x ∧ ∃ b ∈ (arcsAt tp.hd tp.arcs.toNat y).drop j.toNat, tp.tl b = x) ∧ x ≠ tp.tl a) → k < ia l x ∧ ∃ b ∈ (arcsAt tp.hd tp.arcs.toNat y).drop (j + 1).toNat, tp.tl b = x := fun x _ _ ⟨⟨q, b, hb, e⟩, hne⟩ => by
          rw [hdr] at hb
          rcases List.mem_cons.1 hb with rfl | hb
          · exact absurd e.symm hne
          · exact ⟨q, b, hb, e⟩
        have hwk2 : ¬ k < ia l (tp.tl a) → ∀ x, 0 ≤ x → x < tp.n → (k < ia l x ∧ ∃ b ∈ (arcsAt tp.hd tp.arcs.toNat y).drop j.toNat, tp.tl b = x) → k < ia l x ∧ ∃ b ∈ (arcsAt tp.hd tp.arcs.toNat y).drop (j + 1).toNat, tp.tl b = x := fun hnk x x0 x1 hx => hwk x x0 x1 ⟨hx, fun e => hnk (e ▸ hx.1)⟩
        have hXt : k < ia l (tp.tl a) → bhas (bput X c y) (tp.tl a) = false := fun hlt => by
          cases hq : bhas (bput X c y) (tp.tl a) with
          | false => rfl
          | true =>
            have := (hB2.lost _ hta.1 hta.2 hq).2.2
            omega
        repeat' (first | (refine Goal.loud (o := ⟨some 106, _, _, _, _, _⟩) rfl ?_; apply Loud.call0; exact rfl; exact rfl; exact rfl; exact rfl; exact T.bod_68; exact (fun w' H => tail_ok (hR w' H.mod).top har (by omega))) | (refine Goal.loud (o := ⟨some 136, _, _, _, _, _⟩) rfl ?_; refine Loud.callE ([_, _, _]) (set_ok hA (by omega) (tp.tl a) (ia l (tp.tl a))) rfl rfl rfl rfl T.bod_84 (fun _ h => h) ?_; intro A2 g2; rw [if_pos (by omega)] at g2 ⊢) | (apply G.move; exact rfl; exact rfl) | (apply G.assign; exact rfl; exact rfl) | refine Goal.seq (fun _ _ => ?_) | refine Goal.next (by assumption) ?_ | refine Goal.lnil ?_ | refine Goal.region ?_ | refine Goal.skip ?_ | refine Goal.block ?_ | refine Goal.inBlock_normal ?_ | (apply Goal.condF; exact rfl) | (refine Goal.condD rfl (fun hc => ?_) (fun hc => ?_) <;> first | (exfalso; omega) | skip) | refine Goal.guardT rfl rfl ?_ | refine Goal.guardF rfl rfl rfl rfl ?_ | (refine Goal.guardD rfl rfl (fun hc => ?_) (fun hc => ?_) <;> skip) | (apply G.fieldAddr; exact rfl; exact rfl; (first | exact T.fld_100_0 | exact T.fld_77_0 | exact T.fld_77_2 | exact T.fld_77_3)) | (apply G.load; exact rfl; exact rfl; first | exact LoadOK.anyQ T.one_3 hca | exact LoadOK.anyA (vs := [.int .i64 tp.n, vo, vl]) T.agg_25 rfl (fun w' hm => (hR w' hm).ag) | exact LoadOK.anyQ T.one_3 (fun w' hm => (hR w' hm).cr) | exact LoadOK.anyQ T.one_46 (fun w' hm => (hR w' hm).cs) | exact LoadOK.iaMe (b := bs) (l := l) (rest := rest) (E := 3) (i := tp.tl a) (x := ia l (tp.tl a)) T.one_3 (by simp) (by omega) rfl | ((refine LoadOK.one ?_ 0 rfl rfl); exact T.one_30)) | (apply G.pickT; exact rfl; exact rfl; exact rfl) | (apply G.pickF; exact rfl; exact rfl; exact rfl) | (apply G.lss; exact rfl; exact rfl; exact rfl) | (apply G.gtr; exact rfl; exact rfl; exact rfl) | (apply G.neq; exact rfl; exact rfl; exact rfl) | (apply G.add; exact rfl; exact rfl; exact rfl; exact IntWalk.i64_in _ (by omega)) | (apply G.nilCheckP; exact rfl; exact rfl) | (refine G.indexAddr1 rfl (by exact T.slc_46) (by exact T.sz_3) rfl rfl _ (Int.toNat_of_nonneg (by omega)).symm (by omega) ?_))
        all_goals first
          | (refine Goal.again ⟨j + 1, upd m2 (tp.tl a) (some (ia l (tp.tl a))), A2⟩ ⟨by dsimp only; omega, g2, (hB2.put hta (by omega) (by omega) (hXt (by omega)) (by omega)).weak hwk, fun z z0 z1 hz => by
              dsimp only [upd] at hz
              split at hz
              · rename_i e; right; rw [e]; omega
              · exact hmu z z0 z1 hz⟩ (by dsimp only; omega) ⟨rfl, rfl, rfl, rfl, rfl, rfl, trivial⟩ (fun _ h => h); done)
          | (refine Goal.again ⟨j + 1, m2, A⟩ ⟨by dsimp only; omega, hA, (hB2.pass (x0 := tp.tl a) (.inl (by omega))).weak hwk, hmu⟩ (by dsimp only; omega) ⟨rfl, rfl, rfl, rfl, rfl, rfl, trivial⟩ (fun _ h => h); done)
          | (refine Goal.again ⟨j + 1, m2, A⟩ ⟨by dsimp only; omega, hA, hB2.weak (hwk2 (by omega)), hmu⟩ (by dsimp only; omega) ⟨rfl, rfl, rfl, rfl, rfl, rfl, trivial⟩ (fun _ h => h); done)
      · obtain hjl : j = (arcsAt tp.hd tp.arcs.toNat y).length := by omega
        subst hjl
        rw [show (arcsAt tp.hd tp.arcs.toNat y).drop (((arcsAt tp.hd tp.arcs.toNat y).length : Int)).toNat = [] by simp] at hB2
        repeat' (first | refine Goal.seq (fun _ _ => ?_) | refine Goal.next (by assumption) ?_ | refine Goal.lnil ?_ | refine Goal.region ?_ | refine Goal.exit ?_ | refine Goal.then_exit ?_ | refine Goal.inBlock_exit ?_ | refine Goal.inBlock_normal ?_ | (refine Goal.condD rfl (fun hc => ?_) (fun hc => ?_) <;> first | (exfalso; omega) | skip) | (apply G.lss; exact rfl; exact rfl; exact rfl))
        refine Goal.again ⟨m2, k, bput X c y, bclock X c y, A⟩ ⟨hA, hB2.weak fun x _ _ ⟨_, b, hb, _⟩ => by cases hb⟩ (muL_lt (by omega) hmy hkD (by dsimp only; omega) (fun z z0 z1 hz => hmu z z0 (by omega) hz)) ⟨rfl, rfl, trivial⟩ (fun _ h => h)
end
end Go.Proofs.Ythhhegmhgheeiaa
