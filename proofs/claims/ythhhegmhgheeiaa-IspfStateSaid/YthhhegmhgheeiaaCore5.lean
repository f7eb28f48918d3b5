/- More rules: slices that begin behind their block's start (q = q[1:]), and append to them. -/
import Derived.Test.YthhhegmhgheeiaaCore4
namespace Go.Wf
open Go.RowKit
set_option linter.unusedVariables false
/-- A slice of n elements that reads as vs; 'st' lies ahead of it in its block, 'rest' behind. -/
def SlO (v : Value) (E sz n : Nat) (vs : List Value) (A : List Blk) : Prop :=
  (v = .slice none 0 0 ∧ n = 0 ∧ vs = [] ∧ A = []) ∨ (∃ b st rest cap, v = .slice (some ⟨b, List.length st, none⟩) n cap ∧ A = [(b, .cells (st ++ (vs ++ rest)).toArray E)] ∧ vs.length = n * sz ∧ vs.length + rest.length = cap * sz ∧ n ≤ cap) ∨
  (∃ b off o, v = .slice (some ⟨b, off, none⟩) 0 0 ∧ n = 0 ∧ vs = [] ∧ A = [(b, o)])
theorem SlO.nil (E sz : Nat) : SlO (.slice none 0 0) E sz 0 [] [] := .inl ⟨rfl, rfl, rfl, rfl⟩
theorem SlO.mk {E sz n cap b : Nat} {st vs rest : List Value} (h1 : vs.length = n * sz) (h2 : vs.length + rest.length = cap * sz) (h3 : n ≤ cap) : SlO (.slice (some ⟨b, st.length, none⟩) n cap) E sz n vs [(b, .cells (st ++ (vs ++ rest)).toArray E)] :=
  .inr (.inl ⟨b, st, rest, cap, rfl, rfl, h1, h2, h3⟩)
/-- What is left where nothing is left. -/
theorem SlO.void {E sz b off : Nat} {o : Obj} : SlO (.slice (some ⟨b, off, none⟩) 0 0) E sz 0 [] [(b, o)] := .inr (.inr ⟨b, off, o, rfl, rfl, rfl, rfl⟩)
theorem SlO.shape {v : Value} {E sz k : Nat} {vs : List Value} {A : List Blk} (h : SlO v E sz k vs A) : ∃ ad cap, v = .slice ad k cap := by
  rcases h with ⟨rfl, rfl, _, _⟩ | ⟨b, st, r, cap, rfl, _⟩ | ⟨b, off, o, rfl, rfl, _, _⟩
  · exact ⟨none, 0, rfl⟩
  · exact ⟨_, cap, rfl⟩
  · exact ⟨_, 0, rfl⟩
theorem SlO.of_sl {v : Value} {E sz n : Nat} {vs : List Value} {A : List Blk} (h : Sl v E sz n vs A) : SlO v E sz n vs A := by
  rcases h with h | ⟨b, r, cap, rfl, rfl, h1, h2, h3⟩
  · exact .inl h
  · exact .inr (.inl ⟨b, [], r, cap, rfl, rfl, h1, h2, h3⟩)
theorem SlO.pos {v : Value} {E sz n : Nat} {vs : List Value} {A : List Blk} (h : SlO v E sz n vs A) (hn : 0 < n) :
    ∃ b st rest cap, v = .slice (some ⟨b, List.length st, none⟩) n cap ∧ A = [(b, .cells (st ++ (vs ++ rest)).toArray E)] ∧ vs.length = n * sz ∧ vs.length + rest.length = cap * sz ∧ n ≤ cap := by
  rcases h with ⟨_, rfl, _, _⟩ | h | ⟨_, _, _, _, rfl, _, _⟩
  · omega
  · exact h
  · omega
/-- s[1:] -/
theorem SlO.tail {v : Value} {E sz n b cap : Nat} {st rest es vs : List Value} (h1 : es.length = sz) (h2 : vs.length = n * sz) (h3 : (es ++ vs).length + rest.length = cap * sz) (h4 : n + 1 ≤ cap) (h5 : 0 < sz) :
    SlO (.slice (some ⟨b, st.length + sz, none⟩) n (cap - 1)) E sz n vs [(b, .cells (st ++ ((es ++ vs) ++ rest)).toArray E)] := by
  refine .inr (.inl ⟨b, st ++ es, rest, cap - 1, by rw [List.length_append, h1], by simp, h2, ?_, by omega⟩)
  rw [List.length_append, h1] at h3
  have : cap * sz = (cap - 1) * sz + sz := by
    obtain ⟨k, rfl⟩ : ∃ k, cap = k + 1 := ⟨cap - 1, by omega⟩
    rw [Nat.add_mul]; simp
  omega
section
variable {P : Program} {n : Nat} {w0 : World} {S : List Nat} {F : Fr} {L : List Blk} {Q : Exit → Act → World → Prop} {C : Act → World → Prop} {g : Option (Nat × Bool)} {d : Tmp} {x y : Operand} {T ty : TypeId} {ps : String} {af : Array Edge}
theorem run_append_roomO {w : World} (t ty e : TypeId) (i : TypeInfo) (ht : P.underlying t = some (.slice e)) (hi : P.info? e = some i)
    (g off sLen sCap : Nat) (cur : Array Value) (hg : w.heap[g]? = some (.cells cur e (0, 0)))
    (a : Addr) (m c : Nat) (news : List Value) (hl : news.length = m * i.size) (hnews : ∀ j u, news[j]? = some u → w.cell? (a.add j) = some u) (h1 : ∀ u ∈ news, u.oneCell' = true)
    (hroom : sLen + m ≤ sCap) (hfit : off + sLen * i.size + news.length ≤ cur.size) :
    (Builtin.append_ #[t, t] ty #[.slice (some ⟨g, off, none⟩) sLen sCap, .slice (some a) m c]).run P w =
      .ok (.slice (some ⟨g, off, none⟩) (sLen + m) sCap) (w.setRow g (cur.toList.take (off + sLen * i.size) ++ news ++ cur.toList.drop (off + sLen * i.size + news.length)).toArray) := by
  have hf := run_firstCells_some (P := P) w i.size m a m c news hl hnews
  have hst := run_storeCells_at P g (off + sLen * i.size) e news 0 cur w hg (by simpa using hfit) h1
  simp only [Nat.add_zero] at hst
  simp [Builtin.append_, run_underlying ht, sizeOf, typeInfo, hi, Builtin.lenOf, hroom, hf, add_mk, hst]
theorem run_appendSlO {e : TypeId} {z : Value} {m by_ : Nat} {t1 : TypeId} (hu : SliceT P t1 e) (he : Inf P e z m by_) (hz0 : z.cells.size = m)
    {v : Value} {k : Nat} {vs : List Value} {A R : List Blk} (hA : SlO v e m k vs A) {ad : Addr} {l c : Nat} {news : List Value} (hl : news.length = l * m) (h1 : news.all Value.oneCell' = true) (hb : (k + l) * by_ ≤ 140737488355328) (h63 : k + l ≤ 9223372036854775807)
    {w : World} (hw : St w0 S w (A ++ R)) (hnews : ∀ j u, news[j]? = some u → w.cell? (ad.add j) = some u) (ty : TypeId) (hl0 : 0 < l) :
    ∃ v' w' A', (Builtin.append_ #[t1, t1] ty #[v, .slice (some ad) l c]).run P w = .ok v' w' ∧ St w0 S w' (A' ++ R) ∧ SlO v' e m (k + l) (vs ++ news) A' := by
  rcases hA with hA | ⟨b, st, rest, cap, rfl, rfl, hvs, hcap, hkc⟩ | ⟨b, off, o, rfl, rfl, rfl, rfl⟩
  · obtain ⟨v', w', A', h2, h3, h4⟩ := run_appendSl (c := c) hu he hz0 (.inl hA) hl h1 hb h63 hw hnews ty
    exact ⟨v', w', A', h2, h3, .of_sl h4⟩
  · obtain ⟨i, hi, hz, hsz, hby⟩ := info3_parts he.h
    have hone : ∀ u ∈ news, u.oneCell' = true := by simpa using h1
    have hbk := hw.own.1
    by_cases hroom : k + l ≤ cap
    · have hsize : (st ++ (vs ++ rest)).toArray.size = st.length + cap * m := by simp [hcap]
      have hle : (k + l) * m ≤ cap * m := Nat.mul_le_mul_right _ hroom
      have hfit : st.length + k * i.size + news.length ≤ (st ++ (vs ++ rest)).toArray.size := by rw [hsize, hsz, hl, Nat.add_assoc, ← Nat.add_mul]; omega
      have hr := run_append_roomO (P := P) (w := w) t1 ty e i hu.h hi b st.length k cap _ hbk ad l c news (by rw [hsz]; exact hl) hnews hone hroom hfit
      refine ⟨_, _, [(b, _)], hr, hw.row (i := 0) rfl, ?_⟩
      have e1 : ((st ++ (vs ++ rest)).toArray.toList.take (st.length + k * i.size) ++ news ++ (st ++ (vs ++ rest)).toArray.toList.drop (st.length + k * i.size + news.length)) = st ++ ((vs ++ news) ++ rest.drop (l * m)) := by
        rw [hsz, hl, ← hvs]
        simp only [List.take_append, List.drop_append, List.append_assoc]
        simp only [Nat.add_assoc, Nat.add_sub_cancel_left]
        rw [List.take_of_length_le (l := st) (by omega), List.drop_eq_nil_of_le (as := st) (by omega), List.drop_eq_nil_of_le (as := vs) (by omega)]
        simp
      rw [e1]
      refine SlO.mk (by rw [List.length_append, hvs, hl, ← Nat.add_mul]) ?_ hroom
      rw [List.length_append, List.length_drop]
      rw [Nat.add_mul] at hle
      omega
    · have hg : cap < k + l := by omega
      have hold : ∀ j u, vs[j]? = some u → w.cell? ((⟨b, st.length, none⟩ : Addr).add j) = some u := fun j u hu => by
        rw [add_mk]
        refine cell_of_blk hbk ?_
        have hj : j < vs.length := by
          rcases Nat.lt_or_ge j vs.length with h | h
          · exact h
          · simp [List.getElem?_eq_none h] at hu
        simp only [List.getElem?_toArray]
        rw [List.getElem?_append_right (by omega), Nat.add_sub_cancel_left, List.getElem?_append_left hj, hu]
      have hr := run_append_grow (P := P) w t1 ty e i z hu.h hi hz ⟨b, st.length, none⟩ k cap vs (by rw [hsz]; exact hvs) hold ad l c news (by rw [hsz]; exact hl) hnews hg (by omega) (by rw [hby]; exact nextcap_room hg hb)
      refine ⟨_, _, [(w.heap.size, _)], hr, ((hw.drawn (w.drawn + 1)).alloc _).dropAt1, ?_⟩
      have hge := cap_ge w (k + l) cap e
      have hzl : (Builtin.zeroCells z.cells (grownCap w (k + l) cap e - (k + l))).toList.length = (grownCap w (k + l) cap e - (k + l)) * m := by rw [Array.length_toList, size_zeroCells, hz0]
      have e1 : vs.toArray ++ news.toArray ++ Builtin.zeroCells z.cells (grownCap w (k + l) cap e - (k + l)) = ((vs ++ news) ++ (Builtin.zeroCells z.cells (grownCap w (k + l) cap e - (k + l))).toList).toArray := by apply Array.ext'; simp
      rw [e1]
      refine .of_sl (Sl.mk (by rw [List.length_append, hvs, hl, ← Nat.add_mul]) ?_ hge)
      rw [hzl, List.length_append, hvs, hl, ← Nat.add_mul, ← Nat.add_mul]
      congr 1; omega
  · obtain ⟨i, hi, hz, hsz, hby⟩ := info3_parts he.h
    have hr := run_append_grow (P := P) w t1 ty e i z hu.h hi hz ⟨b, off, none⟩ 0 0 [] (by simp) (fun j u hu => by simp at hu) ad l c news (by rw [hsz]; exact hl) hnews (by omega) (by omega) (by rw [hby]; exact nextcap_room (by omega) hb)
    refine ⟨_, _, [(w.heap.size, _)], hr, ((hw.drawn (w.drawn + 1)).alloc _).dropAt1, ?_⟩
    have hge := cap_ge w (0 + l) 0 e
    have hzl : (Builtin.zeroCells z.cells (grownCap w (0 + l) 0 e - (0 + l))).toList.length = (grownCap w (0 + l) 0 e - (0 + l)) * m := by rw [Array.length_toList, size_zeroCells, hz0]
    have e1 : (#[] : Array Value) ++ news.toArray ++ Builtin.zeroCells z.cells (grownCap w (0 + l) 0 e - (0 + l)) = (([] ++ news) ++ (Builtin.zeroCells z.cells (grownCap w (0 + l) 0 e - (0 + l))).toList).toArray := by apply Array.ext'; simp
    rw [show ([] : List Value).toArray = #[] from rfl, e1]
    refine .of_sl (Sl.mk (by simp [hl]) ?_ hge)
    rw [hzl, List.nil_append, hl, ← Nat.add_mul]
    congr 1; omega
/-- 'append(s, e1, ..)': the elements lie in a new block at the list's head; s anywhere behind. -/
theorem Loud.appendO {e e1 : TypeId} {z : Value} {m by_ : Nat} {t1 : TypeId} (hn : Nat.blt d n = true) (hu : SliceT P t1 e) (he : Inf P e z m by_) (hz0 : z.cells.size = m)
    {v : Value} {k : Nat} {vs : List Value} (B : List Blk) {G A : List Blk} (hx : ev F x = some v) (hA : SlO v e m k vs A) {bx l c : Nat} {cx : Array Value} {news : List Value} (hy : ev F y = some (.slice (some ⟨bx, 0, none⟩) l c)) (hcx : cx.toList = news) (hl : news.length = l * m) (h1 : news.all Value.oneCell' = true) (hb : (k + l) * by_ ≤ 140737488355328)
    (h63 : k + l ≤ 9223372036854775807) (h : ∀ v' A', SlO v' e m (k + l) (vs ++ news) A' → Goal n w0 S ((d, v') :: F) (B ++ (A' ++ G)) C) (hl0 : 0 < l := by decide) :
    Goal n w0 S F ((bx, .cells cx e1) :: (B ++ (A ++ G))) (OW P Q ⟨some d, .call { callee := .builtin .append, args := #[x, y], argTypes := #[t1, t1] }, ty, ps, af, g⟩ C) :=
  Loud.of hn fun ρ hρ w hw => by
    have hw2 : St w0 S w (A ++ (B ++ G)) := (hw.sub (List.sublist_cons_self _ _)).perm perm_mid
    obtain ⟨v', w', A', hr, hw', hA'⟩ := run_appendSlO (ad := ⟨bx, 0, none⟩) (c := c) hu he hz0 hA hl h1 hb h63 hw2 (fun j u hj => by
      subst hcx
      rw [add_mk]
      exact cell_of_blk hw.own.1 (by simpa using hj)) ty hl0
    refine ⟨v', w', _, ?_, hw'.perm perm_mid.symm, h v' A' hA'⟩
    simp only [execOp, resolve, invoke, builtin, Sem.run_bind, Sem.run_pure, Result.andThen_ok, List.map_toArray, List.map_cons, List.map_nil, hρ _ _ hx, hρ _ _ hy, hr]
/-- 'append(s, e1, ..)': the same for a slice that begins where its block does. -/
theorem Loud.appendM {e e1 : TypeId} {z : Value} {m by_ : Nat} {t1 : TypeId} (hn : Nat.blt d n = true) (hu : SliceT P t1 e) (he : Inf P e z m by_) (hz0 : z.cells.size = m)
    {v : Value} {k : Nat} {vs : List Value} (B : List Blk) {G A : List Blk} (hx : ev F x = some v) (hA : Sl v e m k vs A) {bx l c : Nat} {cx : Array Value} {news : List Value} (hy : ev F y = some (.slice (some ⟨bx, 0, none⟩) l c)) (hcx : cx.toList = news) (hl : news.length = l * m) (h1 : news.all Value.oneCell' = true) (hb : (k + l) * by_ ≤ 140737488355328)
    (h63 : k + l ≤ 9223372036854775807) (h : ∀ v' A', Sl v' e m (k + l) (vs ++ news) A' → Goal n w0 S ((d, v') :: F) (B ++ (A' ++ G)) C) :
    Goal n w0 S F ((bx, .cells cx e1) :: (B ++ (A ++ G))) (OW P Q ⟨some d, .call { callee := .builtin .append, args := #[x, y], argTypes := #[t1, t1] }, ty, ps, af, g⟩ C) :=
  Loud.of hn fun ρ hρ w hw => by
    have hw2 : St w0 S w (A ++ (B ++ G)) := (hw.sub (List.sublist_cons_self _ _)).perm perm_mid
    obtain ⟨v', w', A', hr, hw', hA'⟩ := run_appendSl (ad := ⟨bx, 0, none⟩) (c := c) hu he hz0 hA hl h1 hb h63 hw2 (fun j u hj => by
      subst hcx
      rw [add_mk]
      exact cell_of_blk hw.own.1 (by simpa using hj)) ty
    refine ⟨v', w', _, ?_, hw'.perm perm_mid.symm, h v' A' hA'⟩
    simp only [execOp, resolve, invoke, builtin, Sem.run_bind, Sem.run_pure, Result.andThen_ok, List.map_toArray, List.map_cons, List.map_nil, hρ _ _ hx, hρ _ _ hy, hr]
end
section
variable {P : Program} {n : Nat} {w0 : World} {S : List Nat} {F : Fr} {L R : List Blk} {Q : Exit → Act → World → Prop} {C : Act → World → Prop} {g : Option (Nat × Bool)} {x y z : Operand} {T t2 ty k e : TypeId} {ps : String} {af : Array Edge} {p0 p1 p2 p3 p4 : Blk} {b c : Nat} {l : List (Int × Int × Nat)} {key v : Int}
theorem Loud.putI0 (hT : MapII P T k e) (hx : ev F x = some (.map (some b))) (hy : ev F y = some (.int .i64 key)) (hz : ev F z = some (.int .i64 v)) (h : Goal n w0 S F ( (b, mobj (mput l c key v) (mclock l c key)) :: R) C) : Goal n w0 S F ( (b, mobj l c) :: R) (OW P Q ⟨none, .mapUpdate T x y z, ty, ps, af, g⟩ C) := Loud.putI 0 hT rfl hx hy hz h
theorem Loud.delI0 (hT : MapII P T k e) (hx : ev F x = some (.map (some b))) (hy : ev F y = some (.int .i64 key)) (h : Goal n w0 S F ( (b, mobj (mdel l key) c) :: R) C) : Goal n w0 S F ( (b, mobj l c) :: R) (OW P Q ⟨none, .call { callee := .builtin .delete, args := #[x, y], argTypes := #[T, t2] }, ty, ps, af, g⟩ C) := Loud.delI 0 hT rfl hx hy h
theorem Loud.putI1 (hT : MapII P T k e) (hx : ev F x = some (.map (some b))) (hy : ev F y = some (.int .i64 key)) (hz : ev F z = some (.int .i64 v)) (h : Goal n w0 S F (p0 :: (b, mobj (mput l c key v) (mclock l c key)) :: R) C) : Goal n w0 S F (p0 :: (b, mobj l c) :: R) (OW P Q ⟨none, .mapUpdate T x y z, ty, ps, af, g⟩ C) := Loud.putI 1 hT rfl hx hy hz h
theorem Loud.delI1 (hT : MapII P T k e) (hx : ev F x = some (.map (some b))) (hy : ev F y = some (.int .i64 key)) (h : Goal n w0 S F (p0 :: (b, mobj (mdel l key) c) :: R) C) : Goal n w0 S F (p0 :: (b, mobj l c) :: R) (OW P Q ⟨none, .call { callee := .builtin .delete, args := #[x, y], argTypes := #[T, t2] }, ty, ps, af, g⟩ C) := Loud.delI 1 hT rfl hx hy h
theorem Loud.putI2 (hT : MapII P T k e) (hx : ev F x = some (.map (some b))) (hy : ev F y = some (.int .i64 key)) (hz : ev F z = some (.int .i64 v)) (h : Goal n w0 S F (p0 :: p1 :: (b, mobj (mput l c key v) (mclock l c key)) :: R) C) : Goal n w0 S F (p0 :: p1 :: (b, mobj l c) :: R) (OW P Q ⟨none, .mapUpdate T x y z, ty, ps, af, g⟩ C) := Loud.putI 2 hT rfl hx hy hz h
theorem Loud.delI2 (hT : MapII P T k e) (hx : ev F x = some (.map (some b))) (hy : ev F y = some (.int .i64 key)) (h : Goal n w0 S F (p0 :: p1 :: (b, mobj (mdel l key) c) :: R) C) : Goal n w0 S F (p0 :: p1 :: (b, mobj l c) :: R) (OW P Q ⟨none, .call { callee := .builtin .delete, args := #[x, y], argTypes := #[T, t2] }, ty, ps, af, g⟩ C) := Loud.delI 2 hT rfl hx hy h
theorem Loud.putI3 (hT : MapII P T k e) (hx : ev F x = some (.map (some b))) (hy : ev F y = some (.int .i64 key)) (hz : ev F z = some (.int .i64 v)) (h : Goal n w0 S F (p0 :: p1 :: p2 :: (b, mobj (mput l c key v) (mclock l c key)) :: R) C) : Goal n w0 S F (p0 :: p1 :: p2 :: (b, mobj l c) :: R) (OW P Q ⟨none, .mapUpdate T x y z, ty, ps, af, g⟩ C) := Loud.putI 3 hT rfl hx hy hz h
theorem Loud.delI3 (hT : MapII P T k e) (hx : ev F x = some (.map (some b))) (hy : ev F y = some (.int .i64 key)) (h : Goal n w0 S F (p0 :: p1 :: p2 :: (b, mobj (mdel l key) c) :: R) C) : Goal n w0 S F (p0 :: p1 :: p2 :: (b, mobj l c) :: R) (OW P Q ⟨none, .call { callee := .builtin .delete, args := #[x, y], argTypes := #[T, t2] }, ty, ps, af, g⟩ C) := Loud.delI 3 hT rfl hx hy h
theorem Loud.putI4 (hT : MapII P T k e) (hx : ev F x = some (.map (some b))) (hy : ev F y = some (.int .i64 key)) (hz : ev F z = some (.int .i64 v)) (h : Goal n w0 S F (p0 :: p1 :: p2 :: p3 :: (b, mobj (mput l c key v) (mclock l c key)) :: R) C) : Goal n w0 S F (p0 :: p1 :: p2 :: p3 :: (b, mobj l c) :: R) (OW P Q ⟨none, .mapUpdate T x y z, ty, ps, af, g⟩ C) := Loud.putI 4 hT rfl hx hy hz h
theorem Loud.delI4 (hT : MapII P T k e) (hx : ev F x = some (.map (some b))) (hy : ev F y = some (.int .i64 key)) (h : Goal n w0 S F (p0 :: p1 :: p2 :: p3 :: (b, mobj (mdel l key) c) :: R) C) : Goal n w0 S F (p0 :: p1 :: p2 :: p3 :: (b, mobj l c) :: R) (OW P Q ⟨none, .call { callee := .builtin .delete, args := #[x, y], argTypes := #[T, t2] }, ty, ps, af, g⟩ C) := Loud.delI 4 hT rfl hx hy h
theorem LoadOK.iaMe {x : Int} (hT : OneB P T) {b : Nat} {l : List Int} {rest : List Value} {E : TypeId} {i : Int} (hL : (b, .cells (ints l ++ rest).toArray E) ∈ L) (hi : 0 ≤ i ∧ i < l.length) (hx : Go.Wf.ia l i = x) : LoadOK P w0 S L T ⟨b, 0 + i.toNat, none⟩ (.int .i64 x) := by
  obtain ⟨k, hk⟩ := List.getElem?_of_mem hL
  exact hx ▸ LoadOK.iaR hT k hk hi
theorem LoadOK.offM {v : Value} (hT : OneB P T) {b off : Nat} {c : Array Value} {E : TypeId} (hL : (b, .cells c E) ∈ L) (hc : c.toList[off]? = some v) : LoadOK P w0 S L T ⟨b, off, none⟩ v := by
  obtain ⟨k, hk⟩ := List.getElem?_of_mem hL
  exact LoadOK.one hT k hk hc
end
end Go.Wf
