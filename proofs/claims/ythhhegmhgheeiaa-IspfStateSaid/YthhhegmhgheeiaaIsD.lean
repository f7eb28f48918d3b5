/- Package ispf: the new distances. -/
import Derived.Test.YthhhegmhgheeiaaIsC
namespace Go.Wf
section
variable {P : Program} {n : Nat} {w0 : World} {S : List Nat} {F : Fr} {L : List Blk} {Q : Exit → Act → World → Prop} {C : Act → World → Prop}
variable {d : Tmp} {x : Operand} {ty : TypeId} {ps : String} {af : Array Edge} {g : Option (Nat × Bool)} {asr : Array Operand} {ts : Array TypeId} {f : FuncId} {vs fst : List Value} {cap : Array Value}
/-- What a call may change in the blocks that it is handed is a change in the sense of the caller. -/
theorem St.modT {w1 w2 : World} {A R : List Blk} (h : St w0 S w1 (R ++ A)) (hm : Mod (keys A) w1 w2) : Mod S w0 w2 := by
  refine ⟨hm.os.trans h.mod.os, hm.tape.trans h.mod.tape, hm.output.trans h.mod.output, Nat.le_trans h.mod.size hm.size, fun k hk hs => ?_⟩
  rw [hm.keep k (Nat.lt_of_lt_of_le hk h.mod.size), h.mod.keep k hk hs]
  intro hk2
  rcases h.new k (by unfold keys at hk2 ⊢; rw [List.map_append]; exact List.mem_append_right _ hk2) with h1 | h1
  · exact hs h1
  · omega
/-- The other blocks stay. -/
theorem St.ownT {w1 w2 : World} {A R : List Blk} (h : St w0 S w1 (R ++ A)) (hm : Mod (keys A) w1 w2) {p : Blk} (hp : p ∈ R) : w2.heap[p.1]? = some p.2 := by
  refine hm.blk (h.get (List.mem_append_left _ hp)) fun hk => ?_
  have hnd := h.nd
  unfold keys at hnd hk
  rw [List.map_append, List.nodup_append] at hnd
  exact hnd.2.2 _ (List.mem_map_of_mem hp) _ hk rfl
theorem Loud.callZ {X : Type} {p : X → Prop} {val : X → Value} {A' : X → List Blk} (R : List Blk) {A : List Blk} {args : List Value} (hn : Nat.blt d n = true) (hx : ev F x = some (.func (.func f) fst.toArray cap)) (ha : evs F asr.toList = some vs) (hargs : fst ++ vs ++ cap.toList = args) (hb : Bod P f)
    (hL : ∀ w, St w0 S w L → St w0 S w (R ++ A))
    (hc : ∀ w, St w0 S w (R ++ A) → Calls P f args.toArray w fun e w' => ∃ x, p x ∧ e = .returned (val x) ∧ St w (keys A) w' (A' x))
    (h : ∀ x, p x → Goal n w0 S ((d, val x) :: F) (R ++ A' x) C) : Goal n w0 S F L (OW P Q ⟨some d, .call { callee := .value x, args := asr, argTypes := ts }, ty, ps, af, g⟩ C) :=
  Loud.call (SS := keys A) (A := A) (R := R) hn hx ha hargs hb (fun w hw => (hL w hw).perm List.perm_append_comm) (fun _ h => h)
    (fun w hw => hc w (hw.perm List.perm_append_comm)) fun x hx => (h x hx).subL fun _ hw => hw.perm List.perm_append_comm
end
theorem rd_at {w : World} {b E c : Nat} {l : List Int} {rest : List Value} (hb : w.heap[b]? = some (Obj.cells (ints l ++ rest).toArray E)) : RdV w (.slice (some ⟨b, 0, none⟩) l.length c) (ints l) := by
  refine ⟨some ⟨b, 0, none⟩, c, by rw [ints_len], fun i u hi => ⟨b, 0, rfl, cell_of_blk hb ?_⟩⟩
  have hlt : i < (ints l).length := (List.getElem?_eq_some_iff.mp hi).1
  simp [List.getElem?_append_left hlt, hi]
end Go.Wf
namespace Go.Proofs.Ythhhegmhgheeiaa
open Go.Wf
set_option linter.unusedVariables false
theorem SetR.none_ (w : World) : SetR w 98 (.map none) (fun _ => false) := fun w' _ key => run_lookupB_none T.mapb_98 key
section
variable {n d top : Int} {G P : Gr} {F F2 : Int → Int} {m : Int → Option Int}
theorem Gai.congr (hk : GOK n G) (hd : 0 ≤ d ∧ d < n) (h : Gai n d G P F m top) (hF : ∀ x, 0 ≤ x → x < n → F2 x = F x) : Gai n d G P F2 m top := by
  refine ⟨by rw [hF d hd.1 hd.2]; exact h.root, fun x x0 x1 => by rw [hF x x0 x1]; exact h.neg x x0 x1, fun x y c hg hp hy hx => ?_, fun x x0 x1 hx hx0 => ?_, fun x k x0 x1 hx => ?_⟩
  · obtain ⟨a, b, _⟩ := hk.ok x y c hg
    rw [hF y b.1 b.2] at hy ⊢
    rw [hF x a.1 a.2]
    exact h.rel x y c hg hp hy hx
  · rw [hF x x0 x1] at hx0 ⊢
    obtain ⟨y, c, hg, hy, he⟩ := h.sup x x0 x1 hx hx0
    obtain ⟨_, b, _⟩ := hk.ok x y c hg
    exact ⟨y, c, hg, by rw [hF y b.1 b.2]; exact hy, by rw [hF y b.1 b.2]; exact he⟩
  · obtain ⟨q1, q2, q3, y, c, hg, hy, he⟩ := h.src x k x0 x1 hx
    obtain ⟨_, b, _⟩ := hk.ok x y c hg
    exact ⟨q1, by rw [hF x x0 x1]; exact q2, q3, y, c, hg, by rw [hF y b.1 b.2]; exact hy, by rw [hF y b.1 b.2]; exact he⟩
/-- The least of a node is offered to it. -/
theorem Gai.best {x0 v : Int} (h : Gai n d G P F m 0) (hx0 : 0 ≤ x0 ∧ x0 < n) (hb : BestP G F (fun _ => false) x0 v) : Gai n d G (fun x y c => P x y c ∨ x = x0) F (offM d F m x0 v) 0 :=
  h.step hx0 (fun x y c hg e => ⟨e, fun hy => by subst e; exact hb.le y c hg hy rfl⟩) (fun h => h) fun hv => by
    rcases hb.ex with e | ⟨y, c, g1, g2, _, g4⟩
    · omega
    · exact ⟨y, c, g1, g2, by omega⟩
theorem BestP.cap {x0 v B C : Int} {X : Int → Bool} (hk : GOK n G) (hb : BestP G F X x0 v) (hF : ∀ y, 0 ≤ y → y < n → F y ≤ B) (hC : ∀ x y c, G x y c → c ≤ C) (h0 : -1 ≤ B + C) : v ≤ B + C := by
  rcases hb.ex with e | ⟨y, c, g1, g2, _, g4⟩
  · omega
  · obtain ⟨_, b, _⟩ := hk.ok _ _ _ g1
    have := hF y b.1 b.2
    have := hC _ _ _ g1
    omega
end
theorem GD.cap' {tp : Top} {dn : List Bool} {d : Int} (ht : tp.Ok) : ∀ x y c, GD tp dn d x y c → c ≤ 65535 := fun x y c ⟨a, ha, _, _, _, _, hc⟩ => by
  obtain ⟨_, _, h, _⟩ := ht.arc ha
  omega
structure G2 where
  (l : List Int) (m : Int → Option Int) (top : Int) (A : List Blk)
section
variable {w : World} {S : List Nat} {bx bs bL bE cs cL cE cv : Nat} {tp : Top} {dn : List Bool} {d : Int} {vo vl vd vm : Value} {av : Option Addr} {l ch : List Int} {rest vsL vsE : List Value} {X : Int → Bool}
set_option maxHeartbeats 16000000 in
theorem gain_ok (hS : TrS tp dn d) (hll : (l.length : Int) = tp.n) (hbd : ∀ y, 0 ≤ y → y < tp.n → -1 ≤ ia l y ∧ ia l y ≤ 65535 * tp.n)
    (H0 : St w S w [(bs, .cells (ints l ++ rest).toArray 3)]) (hR : ∀ w', Mod S w w' → TrC w' bx tp dn d vo vl vd (.slice (some ⟨bs, 0, none⟩) l.length cs))
    (hv : ∀ w', Mod S w w' → RdV w' (.slice av ch.length cv) (ints ch)) (hch : ∀ a ∈ ch, 0 ≤ a ∧ a < tp.arcs) (hcl : ch.length ≤ 1048576)
    (hL : ∀ w', Mod S w w' → LLR w' bL vsL (adjL tp.tl tp.n.toNat tp.arcs.toNat)) (hE : ∀ w', Mod S w w' → LLR w' bE vsE (adjL tp.hd tp.n.toNat tp.arcs.toNat))
    (hm : ∀ w', Mod S w w' → SetR w' 98 vm X) (hB : Gai tp.n d (GD tp dn d) (fun x _ _ => X x = false ∧ ¬ ∃ a ∈ ch, tp.tl a = x) (ia l) (fun _ => none) 0) :
    Calls Try.prog 74 #[.agg #[.pointer (some ⟨bx, 0, none⟩), .slice av ch.length cv, .slice (some ⟨bL, 0, none⟩) (adjL tp.tl tp.n.toNat tp.arcs.toNat).length cL, .slice (some ⟨bE, 0, none⟩) (adjL tp.hd tp.n.toNat tp.arcs.toNat).length cE, vm]] w
      fun e w' => ∃ z : List Int, (z.length = l.length ∧ Bell tp.n d (GD tp dn d) (ia z)) ∧ e = .returned (.tuple #[]) ∧ St w S w' [(bs, .cells (ints z ++ rest).toArray 3)] := by
  have ht := hS.ok
  have hn := ht.n
  have hln := ht.ln
  have har0 : tp.arcs = 2 * (tp.ls.length : Int) := rfl
  have hk := GD.ok (dn := dn) (d := d) ht
  have hC := GD.cap' (dn := dn) (d := d) ht
  refine Goal.enter (args := [.agg #[.pointer (some ⟨bx, 0, none⟩), .slice av ch.length cv, .slice (some ⟨bL, 0, none⟩) (adjL tp.tl tp.n.toNat tp.arcs.toNat).length cL, .slice (some ⟨bE, 0, none⟩) (adjL tp.hd tp.n.toNat tp.arcs.toNat).length cE, vm]]) Try.func74 rfl Try.ntmps74 rfl (H0) ?_
  repeat' (first | (refine Goal.loud (o := ⟨some 22, _, _, _, _, _⟩) rfl ?_; apply Loud.callN; exact rfl; exact rfl; exact rfl; exact rfl; exact T.bod_83; exact (fun w' H => new_ok tp.n (by omega) w'); rintro ⟨bh, bk, bp, A1⟩ g1; dsimp only at g1 ⊢) | (refine Goal.loud (o := ⟨some 1, _, _, _, _, _⟩) rfl ?_; refine Loud.boxA rfl rfl (fun b1 => ?_)) | (refine Goal.loud (o := ⟨some 2, _, _, _, _, _⟩) rfl ?_; refine Loud.alloc rfl T.inf_104 rfl (fun b2 => ?_)) | (apply G.move; exact rfl; exact rfl) | (apply G.assign; exact rfl; exact rfl) | refine Goal.seq (fun _ _ => ?_) | refine Goal.next (by assumption) ?_ | refine Goal.lnil ?_ | refine Goal.region ?_ | refine Goal.block ?_ | (apply G.fieldAddr; exact rfl; exact rfl; (first | exact T.fld_100_0 | exact T.fld_100_4 | exact T.fld_25_0 | exact T.fld_77_0 | exact T.fld_77_3)) | (apply G.load; exact rfl; exact rfl; first | exact LoadOK.anyQ T.one_3 (fun w' hm => (hR w' hm).ag 0 _ rfl) | exact LoadOK.anyQ T.one_46 (fun w' hm => (hR w' hm).cs) | ((first | refine LoadOK.one ?_ 0 rfl rfl | refine LoadOK.one ?_ 1 rfl rfl); first | exact T.one_30 | exact T.one_98)) | (apply G.extract; exact rfl; exact rfl; exact rfl) | (apply G.len; exact rfl; exact rfl; exact T.slc_46) | (apply G.nilCheckP; exact rfl; exact rfl) | (apply G.makeFunc; exact rfl; exact rfl; exact rfl) | (refine Goal.loud rfl ?_; (first | refine Loud.store0 rfl rfl (by first | exact T.sz_98 | exact T.sz_104) rfl rfl rfl ?_ rfl ?_ | refine Loud.store1 rfl rfl (by exact T.sz_98) rfl rfl rfl ?_ rfl ?_); exact Nat.le_of_ble_eq_true rfl))
  have hbd9 : ∀ y, 0 ≤ y → y < tp.n → -1 ≤ ia l y ∧ ia l y ≤ 1000000000 := fun y y0 y1 => by have := hbd y y0 y1; omega
  refine Goal.loopP (X := L1) (fun x => [(1, .pointer (some ⟨b1, 0, none⟩)), (2, .pointer (some ⟨b2, 0, none⟩)), (4, .func (.func 90) #[] #[.pointer (some ⟨b1, 0, none⟩), .pointer (some ⟨b2, 0, none⟩)]), (5, vm), (34, .int .i64 l.length), (35, .int .i64 x.i)])
    (fun x => [(b1, .cells #[.pointer (some ⟨bx, 0, none⟩), .slice av ch.length cv, .slice (some ⟨bL, 0, none⟩) (adjL tp.tl tp.n.toNat tp.arcs.toNat).length cL, .slice (some ⟨bE, 0, none⟩) (adjL tp.hd tp.n.toNat tp.arcs.toNat).length cE, .map none] 100), (b2, .cells #[.pointer (some ⟨bh, 0, none⟩)] 104), (bs, .cells (ints l ++ rest).toArray 3)] ++ x.A)
    (fun x => (0 ≤ x.i ∧ x.i ≤ l.length) ∧ HpA bh bk bp tp.n.toNat x.m x.A ∧ Gai tp.n d (GD tp dn d) (fun y _ _ => (¬ ∃ a ∈ ch, tp.tl a = y) ∧ (X y = true → y < x.i)) (ia l) x.m 0 ∧ ∀ y k, x.m y = some k → k ≤ 65535 * tp.n + 65535) (fun x => (l.length - x.i).toNat) ⟨0, fun _ => none, A1⟩ ⟨rfl, rfl, rfl, rfl, rfl, rfl, trivial⟩ (fun _ h => h.perm (.swap _ _ _))
    ⟨by dsimp only; omega, g1, hB.sub fun x y c hg hp => ⟨by
      cases hx : X x with
      | false => rfl
      | true => have := hp.2 hx; have := (hk.ok _ _ _ hg).1; dsimp only at *; omega, hp.1⟩, fun y k h => by cases h⟩ ?_
  clear g1 hB A1
  rintro ⟨i, m, A⟩ ⟨hi, hA, hB, hmb⟩
  dsimp only at hi hA hB hmb ⊢
  by_cases h : i < l.length
  · have hlook : ∀ w', Mod S w w' → (Instr.lookup 98 vm (.int .i64 i) false).run Try.prog w' = .ok (.bool (X i)) w' := fun w' hmm => hm w' hmm w' (Mod.refl _ _) i
    cases hx : X i
    · rw [hx] at hlook
      repeat' (first | (apply G.move; exact rfl; exact rfl) | (apply G.assign; exact rfl; exact rfl) | refine Goal.seq (fun _ _ => ?_) | refine Goal.next (by assumption) ?_ | refine Goal.lnil ?_ | refine Goal.region ?_ | refine Goal.skip ?_ | refine Goal.block ?_ | refine Goal.inBlock_normal ?_ | (apply Goal.condF; exact rfl) | (refine Goal.condD rfl (fun hc => ?_) (fun hc => ?_) <;> first | (exfalso; omega) | skip) | (apply G.lss; exact rfl; exact rfl; exact rfl) | (apply G.add; exact rfl; exact rfl; exact rfl; exact IntWalk.i64_in _ (by omega)) | (refine Goal.quiet rfl (by exact Run.lookV (fun w' H => hlook w' H.mod) rfl rfl) ?_))
      refine Goal.again ⟨i + 1, m, A⟩ ⟨by dsimp only; omega, hA, hB.sub fun x y c hg hp => ⟨hp.1, fun hXx => by
        have := hp.2 hXx
        have : x ≠ i := fun e => by rw [e, hx] at hXx; cases hXx
        dsimp only at *
        omega⟩, hmb⟩ (by dsimp only; omega) ⟨rfl, rfl, rfl, rfl, rfl, rfl, trivial⟩ (fun _ h => h)
    · rw [hx] at hlook
      repeat' (first | (refine Goal.loud (o := ⟨some 45, _, _, _, _, _⟩) rfl ?_; refine Loud.callV (X := Int) (p := fun v => BestP (GD tp dn d) (ia l) (fun _ => false) (i) v) (val := fun v => .int .i64 v) rfl rfl rfl rfl T.bod_89 (fun w' H => best_ok (hR w' H.mod) hS (rdr (b := bs) (l := l) (rest := rest) (E := 3) H (by simp)) hll hbd9 (hL w' H.mod).rd (SetR.none_ w') (show 0 ≤ i ∧ i < tp.n by omega)) ?_; intro b hb) | (refine Goal.loud (o := ⟨some 46, _, _, _, _, _⟩) rfl ?_; refine Loud.callZ (X := List Blk) (p := fun A' => HpA bh bk bp tp.n.toNat (offM d (ia l) m (i) (b)) A') (val := fun _ => .tuple #[]) (A' := fun A' => A') [(b1, .cells #[.pointer (some ⟨bx, 0, none⟩), .slice av ch.length cv, .slice (some ⟨bL, 0, none⟩) (adjL tp.tl tp.n.toNat tp.arcs.toNat).length cL, .slice (some ⟨bE, 0, none⟩) (adjL tp.hd tp.n.toNat tp.arcs.toNat).length cE, .map none] 100), (b2, .cells #[.pointer (some ⟨bh, 0, none⟩)] 104), (bs, .cells (ints l ++ rest).toArray 3)] rfl rfl rfl rfl T.bod_90 (fun _ h => h) (fun w' H => offer_ok hA (St.start H.drop.own H.drop.nd (fun _ h => h)) hS hll (fun w'' hm2 => cell_of_blk (H.ownT hm2 (p := (b2, .cells #[.pointer (some ⟨bh, 0, none⟩)] 104)) (by simp)) rfl) (fun w'' hm2 => cell_of_blk (H.ownT hm2 (p := (b1, .cells #[.pointer (some ⟨bx, 0, none⟩), .slice av ch.length cv, .slice (some ⟨bL, 0, none⟩) (adjL tp.tl tp.n.toNat tp.arcs.toNat).length cL, .slice (some ⟨bE, 0, none⟩) (adjL tp.hd tp.n.toNat tp.arcs.toNat).length cE, .map none] 100)) (by simp)) rfl) (fun w'' hm2 => hR w'' (H.modT hm2)) (fun w'' hm2 => rd_at (rest := rest) (E := 3) (H.ownT hm2 (p := (bs, .cells (ints l ++ rest).toArray 3)) (by simp))) (show 0 ≤ i ∧ i < tp.n by omega)) ?_; intro A2 g2) | (apply G.move; exact rfl; exact rfl) | (apply G.assign; exact rfl; exact rfl) | refine Goal.seq (fun _ _ => ?_) | refine Goal.next (by assumption) ?_ | refine Goal.lnil ?_ | refine Goal.region ?_ | refine Goal.skip ?_ | refine Goal.block ?_ | refine Goal.inBlock_normal ?_ | (apply Goal.condT; exact rfl) | (refine Goal.condD rfl (fun hc => ?_) (fun hc => ?_) <;> first | (exfalso; omega) | skip) | (apply G.load; exact rfl; exact rfl; exact LoadOK.agg (vs := [_, _, _, _, _]) T.agg_100 0 rfl rfl ⟨rfl, rfl, rfl, rfl, rfl, trivial⟩) | (apply G.lss; exact rfl; exact rfl; exact rfl) | (apply G.add; exact rfl; exact rfl; exact rfl; exact IntWalk.i64_in _ (by omega)) | (refine Goal.quiet rfl (by exact Run.lookV (fun w' H => hlook w' H.mod) rfl rfl) ?_))
      refine Goal.again ⟨i + 1, offM d (ia l) m i b, A2⟩ ⟨by dsimp only; omega, g2, (hB.best (by omega) hb).sub fun x y c hg hp => by
        by_cases e : x = i
        · exact .inr e
        · exact .inl ⟨hp.1, fun hXx => by have := hp.2 hXx; dsimp only at *; omega⟩, offM_le hmb (hb.cap hk (fun y y0 y1 => (hbd y y0 y1).2) hC (by omega))⟩ (by dsimp only; omega) ⟨rfl, rfl, rfl, rfl, rfl, rfl, trivial⟩ (fun _ h => h)
  obtain hil : i = l.length := by omega
  subst hil
  have hB1 : Gai tp.n d (GD tp dn d) (fun x _ _ => ¬ ∃ a ∈ ch.drop 0, tp.tl a = x) (ia l) m 0 := hB.sub fun x y c hg hp => ⟨by rw [List.drop_zero] at hp; exact hp, fun _ => by
    have := (hk.ok _ _ _ hg).1
    omega⟩
  clear hB h
  repeat' (first | (apply G.move; exact rfl; exact rfl) | refine Goal.seq (fun _ _ => ?_) | refine Goal.next (by assumption) ?_ | refine Goal.lnil ?_ | refine Goal.region ?_ | refine Goal.block ?_ | refine Goal.exit ?_ | refine Goal.then_exit ?_ | refine Goal.inBlock_exit ?_ | (refine Goal.condD rfl (fun hc => ?_) (fun hc => ?_) <;> first | (exfalso; omega) | skip) | (apply G.fieldAddr; exact rfl; exact rfl; (exact T.fld_100_1)) | (apply G.load; exact rfl; exact rfl; ((refine LoadOK.one ?_ 0 rfl rfl); exact T.one_46)) | (apply G.lss; exact rfl; exact rfl; exact rfl) | (apply G.len; exact rfl; exact rfl; exact T.slc_46))
  refine Goal.loopP (X := L1) (fun x => [(1, .pointer (some ⟨b1, 0, none⟩)), (2, .pointer (some ⟨b2, 0, none⟩)), (4, .func (.func 90) #[] #[.pointer (some ⟨b1, 0, none⟩), .pointer (some ⟨b2, 0, none⟩)]), (49, .slice av ch.length cv), (50, .int .i64 ch.length), (51, .int .i64 x.i)])
    (fun x => [(b1, .cells #[.pointer (some ⟨bx, 0, none⟩), .slice av ch.length cv, .slice (some ⟨bL, 0, none⟩) (adjL tp.tl tp.n.toNat tp.arcs.toNat).length cL, .slice (some ⟨bE, 0, none⟩) (adjL tp.hd tp.n.toNat tp.arcs.toNat).length cE, .map none] 100), (b2, .cells #[.pointer (some ⟨bh, 0, none⟩)] 104), (bs, .cells (ints l ++ rest).toArray 3)] ++ x.A)
    (fun x => (0 ≤ x.i ∧ x.i ≤ ch.length) ∧ HpA bh bk bp tp.n.toNat x.m x.A ∧ Gai tp.n d (GD tp dn d) (fun y _ _ => ¬ ∃ a ∈ ch.drop x.i.toNat, tp.tl a = y) (ia l) x.m 0 ∧ ∀ y k, x.m y = some k → k ≤ 65535 * tp.n + 65535) (fun x => (ch.length - x.i).toNat) ⟨0, m, A⟩ ⟨rfl, rfl, rfl, rfl, rfl, rfl, trivial⟩ (fun _ h => h)
    ⟨by dsimp only; omega, hA, hB1, hmb⟩ ?_
  clear hA hB1 hmb
  rintro ⟨i, m, A⟩ ⟨hi, hA, hB, hmb⟩
  dsimp only at hi hA hB hmb ⊢
  by_cases h : i < ch.length
  · obtain ⟨ba, oa, rfl, hka⟩ := rd_anyI hv (by omega)
    have hca := hka i hi.1 h
    have har := hch _ (mem_ia (l := ch) (i := i) ⟨hi.1, h⟩)
    have hdr : ch.drop i.toNat = ia ch i :: ch.drop (i + 1).toNat := by
      rw [List.drop_eq_getElem_cons (by omega), ia_at ⟨hi.1, h⟩, show (i + 1).toNat = i.toNat + 1 by omega]
    generalize haa : ia ch i = a at hca har hdr
    obtain ⟨hta, _, _, _⟩ := ht.arc har
    repeat' (first | (refine Goal.loud (o := ⟨some 61, _, _, _, _, _⟩) rfl ?_; apply Loud.call0; exact rfl; exact rfl; exact rfl; exact rfl; exact T.bod_68; exact (fun w' H => tail_ok (hR w' H.mod).top har (by omega))) | (refine Goal.loud (o := ⟨some 66, _, _, _, _, _⟩) rfl ?_; refine Loud.callV (X := Int) (p := fun v => BestP (GD tp dn d) (ia l) (fun _ => false) (tp.tl a) v) (val := fun v => .int .i64 v) rfl rfl rfl rfl T.bod_89 (fun w' H => best_ok (hR w' H.mod) hS (rdr (b := bs) (l := l) (rest := rest) (E := 3) H (by simp)) hll hbd9 (hL w' H.mod).rd (SetR.none_ w') hta) ?_; intro b hb) | (refine Goal.loud (o := ⟨some 67, _, _, _, _, _⟩) rfl ?_; refine Loud.callZ (X := List Blk) (p := fun A' => HpA bh bk bp tp.n.toNat (offM d (ia l) m (tp.tl a) (b)) A') (val := fun _ => .tuple #[]) (A' := fun A' => A') [(b1, .cells #[.pointer (some ⟨bx, 0, none⟩), .slice (some ⟨ba, oa, none⟩) ch.length cv, .slice (some ⟨bL, 0, none⟩) (adjL tp.tl tp.n.toNat tp.arcs.toNat).length cL, .slice (some ⟨bE, 0, none⟩) (adjL tp.hd tp.n.toNat tp.arcs.toNat).length cE, .map none] 100), (b2, .cells #[.pointer (some ⟨bh, 0, none⟩)] 104), (bs, .cells (ints l ++ rest).toArray 3)] rfl rfl rfl rfl T.bod_90 (fun _ h => h) (fun w' H => offer_ok hA (St.start H.drop.own H.drop.nd (fun _ h => h)) hS hll (fun w'' hm2 => cell_of_blk (H.ownT hm2 (p := (b2, .cells #[.pointer (some ⟨bh, 0, none⟩)] 104)) (by simp)) rfl) (fun w'' hm2 => cell_of_blk (H.ownT hm2 (p := (b1, .cells #[.pointer (some ⟨bx, 0, none⟩), .slice (some ⟨ba, oa, none⟩) ch.length cv, .slice (some ⟨bL, 0, none⟩) (adjL tp.tl tp.n.toNat tp.arcs.toNat).length cL, .slice (some ⟨bE, 0, none⟩) (adjL tp.hd tp.n.toNat tp.arcs.toNat).length cE, .map none] 100)) (by simp)) rfl) (fun w'' hm2 => hR w'' (H.modT hm2)) (fun w'' hm2 => rd_at (rest := rest) (E := 3) (H.ownT hm2 (p := (bs, .cells (ints l ++ rest).toArray 3)) (by simp))) hta) ?_; intro A2 g2) | (apply G.move; exact rfl; exact rfl) | (apply G.assign; exact rfl; exact rfl) | refine Goal.seq (fun _ _ => ?_) | refine Goal.next (by assumption) ?_ | refine Goal.lnil ?_ | refine Goal.region ?_ | refine Goal.skip ?_ | refine Goal.block ?_ | refine Goal.inBlock_normal ?_ | (refine Goal.condD rfl (fun hc => ?_) (fun hc => ?_) <;> first | (exfalso; omega) | skip) | (apply G.fieldAddr; exact rfl; exact rfl; (first | exact T.fld_100_0 | exact T.fld_77_0)) | (apply G.load; exact rfl; exact rfl; first | exact LoadOK.anyQ T.one_3 hca | exact LoadOK.anyA (vs := [.int .i64 tp.n, vo, vl]) T.agg_25 rfl (fun w' hm => (hR w' hm).ag) | ((refine LoadOK.one ?_ 0 rfl rfl); exact T.one_30) | exact LoadOK.agg (vs := [_, _, _, _, _]) T.agg_100 0 rfl rfl ⟨rfl, rfl, rfl, rfl, rfl, trivial⟩) | (apply G.lss; exact rfl; exact rfl; exact rfl) | (apply G.add; exact rfl; exact rfl; exact rfl; exact IntWalk.i64_in _ (by omega)) | (apply G.nilCheckP; exact rfl; exact rfl) | (refine G.indexAddr1 rfl (by exact T.slc_46) (by exact T.sz_3) rfl rfl _ (Int.toNat_of_nonneg (by omega)).symm (by omega) ?_))
    refine Goal.again ⟨i + 1, offM d (ia l) m (tp.tl a) b, A2⟩ ⟨by dsimp only; omega, g2, (hB.best hta hb).sub fun x y c hg hp => by
      by_cases e : x = tp.tl a
      · exact .inr e
      · refine .inl fun ⟨q, hq, e2⟩ => ?_
        rw [hdr] at hq
        rcases List.mem_cons.1 hq with rfl | hq
        · exact e e2.symm
        · exact hp ⟨q, hq, e2⟩, offM_le hmb (hb.cap hk (fun y y0 y1 => (hbd y y0 y1).2) hC (by omega))⟩ (by dsimp only; omega) ⟨rfl, rfl, rfl, rfl, rfl, rfl, trivial⟩ (fun _ h => h)
  obtain hil : i = ch.length := by omega
  subst hil
  have hB1 : Gai tp.n d (GD tp dn d) (fun _ _ _ => True) (ia l) m 0 := hB.sub fun x y c hg hp => by
    rw [show ch.drop ((ch.length : Int)).toNat = [] by simp]
    rintro ⟨a, ha, _⟩
    cases ha
  clear hB h hm hbd9
  have hmu0 := cntP_le tp.n.toNat fun x => decide (ia l x < 0 ∨ 0 < ia l x)
  repeat' (first | refine Goal.seq (fun _ _ => ?_) | refine Goal.next (by assumption) ?_ | refine Goal.lnil ?_ | refine Goal.region ?_ | refine Goal.block ?_ | refine Goal.exit ?_ | refine Goal.then_exit ?_ | refine Goal.inBlock_exit ?_ | (refine Goal.condD rfl (fun hc => ?_) (fun hc => ?_) <;> first | (exfalso; omega) | skip) | (apply G.lss; exact rfl; exact rfl; exact rfl))
  refine Goal.loopP (X := G2) (fun x => [(1, .pointer (some ⟨b1, 0, none⟩)), (2, .pointer (some ⟨b2, 0, none⟩)), (4, .func (.func 90) #[] #[.pointer (some ⟨b1, 0, none⟩), .pointer (some ⟨b2, 0, none⟩)])])
    (fun x => [(b1, .cells #[.pointer (some ⟨bx, 0, none⟩), .slice av ch.length cv, .slice (some ⟨bL, 0, none⟩) (adjL tp.tl tp.n.toNat tp.arcs.toNat).length cL, .slice (some ⟨bE, 0, none⟩) (adjL tp.hd tp.n.toNat tp.arcs.toNat).length cE, .map none] 100), (b2, .cells #[.pointer (some ⟨bh, 0, none⟩)] 104), (bs, .cells (ints x.l ++ rest).toArray 3)] ++ x.A)
    (fun x => (x.l.length = l.length ∧ 0 ≤ x.top) ∧ HpA bh bk bp tp.n.toNat x.m x.A ∧ Gai tp.n d (GD tp dn d) (fun _ _ _ => True) (ia x.l) x.m x.top ∧ ∀ y k, x.m y = some k → k ≤ 65535 * (2 * tp.n + 2 - muG tp.n.toNat (ia x.l) x.top)) (fun x => muG tp.n.toNat (ia x.l) x.top) ⟨l, m, 0, A⟩ ⟨rfl, rfl, rfl, trivial⟩ (fun _ h => h)
    ⟨⟨rfl, by dsimp only; omega⟩, hA, hB1, fun y k h => by
      have := hmb y k h
      unfold muG
      dsimp only
      omega⟩ ?_
  clear hA hB1 hmb hmu0
  rintro ⟨l2, m, top, A⟩ ⟨⟨hl2, htop⟩, hA, hB, hmb⟩
  dsimp only at hl2 htop hA hB hmb ⊢
  repeat' (first | (refine Goal.loud (o := ⟨some 71, _, _, _, _, _⟩) rfl ?_; refine Loud.callE ([_, _, _]) (pop_ok hA (by omega)) rfl rfl rfl rfl T.bod_85 (fun _ h => h) ?_; rintro ⟨y, k, ok, A3⟩ ⟨hp, h3⟩; dsimp only at hp h3 ⊢; rcases hp with ⟨rfl, rfl, rfl, hno⟩ | ⟨rfl, y0, y1, hmy, hmin⟩) | (apply G.move; exact rfl; exact rfl) | (apply G.assign; exact rfl; exact rfl) | refine Goal.seq (fun _ _ => ?_) | refine Goal.next (by assumption) ?_ | refine Goal.lnil ?_ | refine Goal.region ?_ | refine Goal.skip ?_ | refine Goal.block ?_ | refine Goal.ret ?_ | refine Goal.then_ret ?_ | refine Goal.inBlock_ret ?_ | (apply Goal.condT; exact rfl) | (apply Goal.condF; exact rfl) | (apply G.fieldAddr; exact rfl; exact rfl; (first | exact T.fld_100_0 | exact T.fld_100_3 | exact T.fld_77_3)) | (apply G.load; exact rfl; exact rfl; first | exact LoadOK.anyQ T.one_46 (fun w' hm => (hR w' hm).cs) | ((first | refine LoadOK.one ?_ 0 rfl rfl | refine LoadOK.one ?_ 1 rfl rfl); first | exact T.one_30 | exact T.one_83 | exact T.one_104)) | (apply G.notT; exact rfl; exact rfl) | (apply G.notF; exact rfl; exact rfl) | (apply G.extract; exact rfl; exact rfl; exact rfl) | (apply G.nilCheckP; exact rfl; exact rfl) | (refine G.indexAddr1 rfl (by first | exact T.slc_46 | exact T.slc_83) (by first | exact T.sz_3 | exact T.sz_46) rfl rfl _ (Int.toNat_of_nonneg (by omega)).symm (by omega) ?_) | (refine Goal.loud rfl ?_; refine Loud.store2 rfl rfl T.sz_3 rfl rfl rfl (by rw [List.size_toArray, List.length_append, ints_len]; omega) (wr_intsR (by omega)) ?_))
  · refine Goal.done (vs := []) (by first | exact .inl rfl | exact .inr rfl) Try.results74 trivial rfl (fun w' H => ⟨l2, ⟨hl2, hB.done hk hS.d (fun _ _ _ _ => trivial) (fun x x0 x1 => hno x x0 (by omega))⟩, rfl, (H.left (R := A3) (L := [_, _, _])).drop (L := [_, _]) (R := [_])⟩)
  have hyl : y < tp.n := by omega
  have hy : 0 ≤ y ∧ y < tp.n := ⟨y0, hyl⟩
  have hmin' : ∀ x k', 0 ≤ x → x < tp.n → m x = some k' → k ≤ k' := fun x k' x0 x1 hx => by
    have := hmin x k' x0 (by omega) hx
    omega
  obtain ⟨hyd, hyF, htk, _⟩ := hB.src y k y0 hyl hmy
  have hkb := hmb y k hmy
  rw [if_pos rfl] at h3
  have hF3 : ∀ x, 0 ≤ x → x < tp.n → ia (l2.set y.toNat k) x = if x = y then k else ia l2 x := fun x x0 x1 => by
    rw [ia_upd (by omega) (by omega)]
    by_cases e : y = x
    · rw [if_pos e, if_pos e.symm]
    · rw [if_neg e, if_neg (fun h => e h.symm)]
  have hyk : ia (l2.set y.toNat k) y = k := by rw [hF3 y y0 hyl, if_pos rfl]
  have hmu := muG_lt (n := tp.n.toNat) (top := top) (F := ia l2) (F' := ia (l2.set y.toNat k)) (k := k) (y := y) (by omega) hyF htk (by omega) (fun x x0 x1 => hF3 x x0 (by omega))
  have hB1 := ((hB.pop hk (fun _ _ _ _ => trivial) hy hmy htop hmin').congr hk hS.d hF3).sub (P' := fun x z c => z = y → ∃ b ∈ (arcsAt tp.hd tp.arcs.toNat y).take (0 : Int).toNat, (ba dn b = false ∧ (tp.hd b = d ∨ tp.over (tp.hd b) = false)) ∧ tp.tl b = x ∧ tp.co b = c) (fun x z c hg hp e => by
    obtain ⟨b, hb, _⟩ := hp e
    simp at hb)
  have hmb1 : ∀ x k', upd m y none x = some k' → k' ≤ 65535 * (2 * tp.n + 2 - muG tp.n.toNat (ia (l2.set y.toNat k)) k) := fun x k' hx => by
    dsimp only [upd] at hx
    split at hx
    · cases hx
    · have := hmb x k' hx
      omega
  clear hB hmb hmin hmin' 
  generalize hl3 : (l2.set y.toNat k) = l3 at hF3 hyk hmu hB1 hmb1
  have hl3l : l3.length = l.length := by rw [← hl3, List.length_set]; exact hl2
  have hlk := adjL_len tp.hd tp.n.toNat tp.arcs.toNat
  obtain ⟨au, cu, hau⟩ := LLR.any hE (i := y.toNat) (by rw [adjL_len]; omega)
  rw [adjL_at, Int.toNat_of_nonneg y0] at hau
  have hal := arcsAt_len tp.hd tp.arcs.toNat y
  have hcy := fun w' hm => (hau w' hm).1
  have hry := fun w' hm => (hau w' hm).2
  clear hau
  repeat' (first | (apply G.move; exact rfl; exact rfl) | refine Goal.next (by assumption) ?_ | refine Goal.lnil ?_ | refine Goal.block ?_ | (apply G.load; exact rfl; exact rfl; (exact LoadOK.anyQ T.one_46 (by rw [Nat.zero_add]; exact hcy))) | (apply G.len; exact rfl; exact rfl; exact T.slc_46) | (refine G.indexAddr1 rfl (by first | exact T.slc_46 | exact T.slc_83) (by first | exact T.sz_3 | exact T.sz_46) rfl rfl _ (Int.toNat_of_nonneg (by omega)).symm (by omega) ?_))
  refine Goal.loopP (X := L1) (fun x => [(1, .pointer (some ⟨b1, 0, none⟩)), (2, .pointer (some ⟨b2, 0, none⟩)), (4, .func (.func 90) #[] #[.pointer (some ⟨b1, 0, none⟩), .pointer (some ⟨b2, 0, none⟩)]), (11, .int .i64 k), (89, .slice au (arcsAt tp.hd tp.arcs.toNat y).length cu), (90, .int .i64 (arcsAt tp.hd tp.arcs.toNat y).length), (91, .int .i64 x.i)])
    (fun x => [(b1, .cells #[.pointer (some ⟨bx, 0, none⟩), .slice av ch.length cv, .slice (some ⟨bL, 0, none⟩) (adjL tp.tl tp.n.toNat tp.arcs.toNat).length cL, .slice (some ⟨bE, 0, none⟩) (adjL tp.hd tp.n.toNat tp.arcs.toNat).length cE, .map none] 100), (b2, .cells #[.pointer (some ⟨bh, 0, none⟩)] 104), (bs, .cells (ints l3 ++ rest).toArray 3)] ++ x.A)
    (fun x => (0 ≤ x.i ∧ x.i ≤ (arcsAt tp.hd tp.arcs.toNat y).length) ∧ HpA bh bk bp tp.n.toNat x.m x.A ∧ Gai tp.n d (GD tp dn d) (fun q z c => z = y → ∃ b ∈ (arcsAt tp.hd tp.arcs.toNat y).take x.i.toNat, (ba dn b = false ∧ (tp.hd b = d ∨ tp.over (tp.hd b) = false)) ∧ tp.tl b = q ∧ tp.co b = c) (ia l3) x.m k ∧ ∀ q k', x.m q = some k' → k' ≤ 65535 * (2 * tp.n + 2 - muG tp.n.toNat (ia l3) k)) (fun x => ((arcsAt tp.hd tp.arcs.toNat y).length - x.i).toNat) ⟨0, upd m y none, A3⟩ ⟨rfl, rfl, rfl, rfl, rfl, rfl, rfl, trivial⟩ (fun _ h => h)
    ⟨by dsimp only; omega, h3, hB1, hmb1⟩ ?_
  clear h3 hB1 hmb1 hl3 A3
  rintro ⟨j, m2, A⟩ ⟨hj, hA, hB, hmb⟩
  dsimp only at hj hA hB hmb ⊢
  by_cases h : j < (arcsAt tp.hd tp.arcs.toNat y).length
  · obtain ⟨ba9, oa, rfl, hka⟩ := rd_anyI hry (by omega)
    have hca := hka j hj.1 h
    obtain ⟨har1, hha⟩ := mem_arcsAt.1 (mem_ia (l := (arcsAt tp.hd tp.arcs.toNat y)) (i := j) ⟨hj.1, h⟩)
    have htk2 : (arcsAt tp.hd tp.arcs.toNat y).take (j + 1).toNat = (arcsAt tp.hd tp.arcs.toNat y).take j.toNat ++ [ia (arcsAt tp.hd tp.arcs.toNat y) j] := by
      rw [show (j + 1).toNat = j.toNat + 1 by omega, List.take_succ_eq_append_getElem (by omega), ia_at ⟨hj.1, h⟩]
    generalize haa : ia (arcsAt tp.hd tp.arcs.toNat y) j = a at hca har1 hha htk2
    have har : 0 ≤ a ∧ a < tp.arcs := by omega
    obtain ⟨hta, _, hco, _⟩ := ht.arc har
    have hnx : ∀ q z c, (z = y → ∃ b ∈ (arcsAt tp.hd tp.arcs.toNat y).take (j + 1).toNat, (ba dn b = false ∧ (tp.hd b = d ∨ tp.over (tp.hd b) = false)) ∧ tp.tl b = q ∧ tp.co b = c) → (z = y → ∃ b ∈ (arcsAt tp.hd tp.arcs.toNat y).take j.toNat, (ba dn b = false ∧ (tp.hd b = d ∨ tp.over (tp.hd b) = false)) ∧ tp.tl b = q ∧ tp.co b = c) ∨ ((ba dn a = false ∧ (tp.hd a = d ∨ tp.over (tp.hd a) = false)) ∧ z = y ∧ q = tp.tl a ∧ c = tp.co a) := fun q z c hp => by
      by_cases e : z = y
      · obtain ⟨b, hb, hu, e1, e2⟩ := hp e
        rw [htk2] at hb
        rcases List.mem_append.1 hb with hb | hb
        · exact .inl fun _ => ⟨b, hb, hu, e1, e2⟩
        · obtain rfl : b = a := by simpa using hb
          exact .inr ⟨hu, e, e1.symm, e2.symm⟩
      · exact .inl fun e' => absurd e' e
    by_cases hus : ba dn a = false ∧ (tp.hd a = d ∨ tp.over (tp.hd a) = false)
    · skip
      repeat' (first | (refine Goal.drawHd (id := 24) 18 T.mixed ?_; all_goals ((refine Goal.takeP (listed' := #[Ya,No,No,No,No,No,No,No,No,No,No,No,No,No,No,No,No,No]) 0 ⟨rfl, by kernel_rfl, by kernel_rfl, by kernel_rfl, by kernel_rfl⟩ rfl (fun _ _ _ _ h => h) (by intro _; exact Run.move rfl) ?_)); all_goals ((refine Goal.takeP (listed' := #[Ya,Ya,No,No,No,No,No,No,No,No,No,No,No,No,No,No,No,No]) 1 ⟨rfl, by kernel_rfl, by kernel_rfl, by kernel_rfl, by kernel_rfl⟩ rfl (fun _ _ _ _ h => h) (by intro _; exact Run.fieldAddr T.fld_100_0 rfl) ?_)); all_goals ((refine Goal.takeP (listed' := #[Ya,Ya,No,No,No,No,Ya,No,No,No,No,No,No,No,No,No,No,No]) 6 ⟨rfl, by kernel_rfl, by kernel_rfl, by kernel_rfl, by kernel_rfl⟩ rfl (fun _ _ _ _ h => h) (by intro _; exact Run.move rfl) ?_)); all_goals ((refine Goal.takeP (listed' := #[Ya,Ya,No,No,No,No,Ya,No,Ya,No,No,No,No,No,No,No,No,No]) 8 ⟨rfl, by kernel_rfl, by kernel_rfl, by kernel_rfl, by kernel_rfl⟩ rfl (fun _ _ _ _ h => h) (by intro _; exact Run.move rfl) ?_)); all_goals ((refine Goal.takeP (listed' := #[Ya,Ya,No,No,No,No,Ya,No,Ya,Ya,No,No,No,No,No,No,No,No]) 9 ⟨rfl, by kernel_rfl, by kernel_rfl, by kernel_rfl, by kernel_rfl⟩ rfl (fun _ _ _ _ h => h) (by intro _; exact Run.fieldAddr T.fld_100_0 rfl) ?_)); all_goals ((refine Goal.takeP (listed' := #[Ya,Ya,No,No,No,No,Ya,No,Ya,Ya,No,No,No,No,Ya,No,No,No]) 14 ⟨rfl, by kernel_rfl, by kernel_rfl, by kernel_rfl, by kernel_rfl⟩ rfl (fun _ _ _ _ h => h) (by intro _; exact Run.move rfl) ?_)); all_goals ((refine Goal.take (listed' := #[Ya,Ya,Ya,No,No,No,Ya,No,Ya,Ya,No,No,No,No,Ya,No,No,No]) 2 ⟨rfl, by kernel_rfl, by kernel_rfl, by kernel_rfl, by kernel_rfl, by kernel_rfl⟩ rfl (by (exact sh1)) (fun _ _ _ _ h => h) (by (apply Run.load; exact rfl; exact LoadOK.one T.one_30 0 rfl rfl)) ?_)); all_goals ((refine Goal.takeP (listed' := #[Ya,Ya,Ya,Ya,No,No,Ya,No,Ya,Ya,No,No,No,No,Ya,No,No,No]) 3 ⟨rfl, by kernel_rfl, by kernel_rfl, by kernel_rfl, by kernel_rfl⟩ rfl (fun _ _ _ _ h => h) (by intro _; exact Run.nilCheckP rfl) ?_)); all_goals ((refine Goal.takeP (listed' := #[Ya,Ya,Ya,Ya,Ya,No,Ya,No,Ya,Ya,No,No,No,No,Ya,No,No,No]) 4 ⟨rfl, by kernel_rfl, by kernel_rfl, by kernel_rfl, by kernel_rfl⟩ rfl (fun _ _ _ _ h => h) (by intro _; exact Run.fieldAddr T.fld_77_0 rfl) ?_)); all_goals ((refine Goal.take (listed' := #[Ya,Ya,Ya,Ya,Ya,Ya,Ya,No,Ya,Ya,No,No,No,No,Ya,No,No,No]) 5 ⟨rfl, by kernel_rfl, by kernel_rfl, by kernel_rfl, by kernel_rfl, by kernel_rfl⟩ rfl (by (exact sh1)) (fun _ _ _ _ h => h) (by (apply Run.load; exact rfl; exact LoadOK.anyA (vs := [.int .i64 tp.n, vo, vl]) T.agg_25 rfl (fun w' hm => (hR w' hm).ag))) ?_)); all_goals ((refine Goal.take (listed' := #[Ya,Ya,Ya,Ya,Ya,Ya,Ya,No,Ya,Ya,Ya,No,No,No,Ya,No,No,No]) 10 ⟨rfl, by kernel_rfl, by kernel_rfl, by kernel_rfl, by kernel_rfl, by kernel_rfl⟩ rfl (by (exact sh1)) (fun _ _ _ _ h => h) (by (apply Run.load; exact rfl; exact LoadOK.one T.one_30 0 rfl rfl)) ?_)); all_goals ((refine Goal.takeP (listed' := #[Ya,Ya,Ya,Ya,Ya,Ya,Ya,No,Ya,Ya,Ya,Ya,No,No,Ya,No,No,No]) 11 ⟨rfl, by kernel_rfl, by kernel_rfl, by kernel_rfl, by kernel_rfl⟩ rfl (fun _ _ _ _ h => h) (by intro _; exact Run.nilCheckP rfl) ?_)); all_goals ((refine Goal.takeP (listed' := #[Ya,Ya,Ya,Ya,Ya,Ya,Ya,No,Ya,Ya,Ya,Ya,Ya,No,Ya,No,No,No]) 12 ⟨rfl, by kernel_rfl, by kernel_rfl, by kernel_rfl, by kernel_rfl⟩ rfl (fun _ _ _ _ h => h) (by intro _; exact Run.fieldAddr T.fld_77_0 rfl) ?_)); all_goals ((refine Goal.take (listed' := #[Ya,Ya,Ya,Ya,Ya,Ya,Ya,No,Ya,Ya,Ya,Ya,Ya,Ya,Ya,No,No,No]) 13 ⟨rfl, by kernel_rfl, by kernel_rfl, by kernel_rfl, by kernel_rfl, by kernel_rfl⟩ rfl (by (exact sh1)) (fun _ _ _ _ h => h) (by (apply Run.load; exact rfl; exact LoadOK.anyA (vs := [.int .i64 tp.n, vo, vl]) T.agg_25 rfl (fun w' hm => (hR w' hm).ag))) ?_)); all_goals (refine Goal.ready1 (i := 7) (by kernel_rfl) ?_); all_goals ((refine Goal.up (i := 7) (listed' := #[Ya,Ya,Ya,Ya,Ya,Ya,Ya,Ya,Ya,Ya,Ya,Ya,Ya,Ya,Ya,No,No,No]) rfl (by kernel_rfl) ?_; (apply Loud.call0; exact rfl; exact rfl; exact rfl; exact rfl; exact T.bod_68; exact (fun w' H => tail_ok (hR w' H.mod).top har (by omega))); refine Goal.kept (by (exact sh1)) ?_)); all_goals (refine Goal.ready1 (i := 15) (by kernel_rfl) ?_); all_goals ((refine Goal.up (i := 15) (listed' := #[Ya,Ya,Ya,Ya,Ya,Ya,Ya,Ya,Ya,Ya,Ya,Ya,Ya,Ya,Ya,Ya,No,No]) rfl (by kernel_rfl) ?_; (apply Loud.call0; exact rfl; exact rfl; exact rfl; exact rfl; exact T.bod_52; exact (fun w' H => cost_ok (hR w' H.mod).top har (by omega))); refine Goal.kept (by (exact sh1)) ?_)); all_goals ((refine Goal.takeP (listed' := #[Ya,Ya,Ya,Ya,Ya,Ya,Ya,Ya,Ya,Ya,Ya,Ya,Ya,Ya,Ya,Ya,Ya,No]) 16 ⟨rfl, by kernel_rfl, by kernel_rfl, by kernel_rfl, by kernel_rfl⟩ rfl (fun _ _ _ _ h => h) (by intro _; (apply Run.add; exact rfl; exact rfl; exact IntWalk.i64_in _ (by omega))) ?_)); all_goals (refine Goal.ready1 (i := 17) (by kernel_rfl) ?_); all_goals ((refine Goal.up (i := 17) (listed' := #[Ya,Ya,Ya,Ya,Ya,Ya,Ya,Ya,Ya,Ya,Ya,Ya,Ya,Ya,Ya,Ya,Ya,Ya]) rfl (by kernel_rfl) ?_; (refine Loud.callZ (X := List Blk) (p := fun A' => HpA bh bk bp tp.n.toNat (offM d (ia l3) m2 (tp.tl a) (k + tp.co a)) A') (val := fun _ => .tuple #[]) (A' := fun A' => A') [(b1, .cells #[.pointer (some ⟨bx, 0, none⟩), .slice av ch.length cv, .slice (some ⟨bL, 0, none⟩) (adjL tp.tl tp.n.toNat tp.arcs.toNat).length cL, .slice (some ⟨bE, 0, none⟩) (adjL tp.hd tp.n.toNat tp.arcs.toNat).length cE, .map none] 100), (b2, .cells #[.pointer (some ⟨bh, 0, none⟩)] 104), (bs, .cells (ints l3 ++ rest).toArray 3)] rfl rfl rfl rfl T.bod_90 (fun _ h => h) (fun w' H => offer_ok hA (St.start H.drop.own H.drop.nd (fun _ h => h)) hS (show (l3.length : Int) = tp.n by omega) (fun w'' hm2 => cell_of_blk (H.ownT hm2 (p := (b2, .cells #[.pointer (some ⟨bh, 0, none⟩)] 104)) (by simp)) rfl) (fun w'' hm2 => cell_of_blk (H.ownT hm2 (p := (b1, .cells #[.pointer (some ⟨bx, 0, none⟩), .slice av ch.length cv, .slice (some ⟨bL, 0, none⟩) (adjL tp.tl tp.n.toNat tp.arcs.toNat).length cL, .slice (some ⟨bE, 0, none⟩) (adjL tp.hd tp.n.toNat tp.arcs.toNat).length cE, .map none] 100)) (by simp)) rfl) (fun w'' hm2 => (hl3l ▸ hR w'' (H.modT hm2))) (fun w'' hm2 => rd_at (rest := rest) (E := 3) (H.ownT hm2 (p := (bs, .cells (ints l3 ++ rest).toArray 3)) (by simp))) hta) ?_; intro A2 g2); refine Goal.kept (by (exact sh1)) ?_)); all_goals (refine Goal.allUp (by kernel_rfl) ?_)) | (refine Goal.loud (o := ⟨some 98, _, _, _, _, _⟩) rfl ?_; apply Loud.call0; exact rfl; exact rfl; exact rfl; exact rfl; exact T.bod_51; exact (fun w' H => usable_ok (hR w' H.mod) hS har); rw [decide_eq_true hus]) | (apply G.move; exact rfl; exact rfl) | (apply G.assign; exact rfl; exact rfl) | refine Goal.seq (fun _ _ => ?_) | refine Goal.next (by assumption) ?_ | refine Goal.lnil ?_ | refine Goal.region ?_ | refine Goal.skip ?_ | refine Goal.block ?_ | refine Goal.inBlock_normal ?_ | (apply Goal.condT; exact rfl) | (refine Goal.condD rfl (fun hc => ?_) (fun hc => ?_) <;> first | (exfalso; omega) | skip) | (apply G.fieldAddr; exact rfl; exact rfl; (exact T.fld_100_0)) | (apply G.load; exact rfl; exact rfl; first | exact LoadOK.anyQ T.one_3 hca | ((refine LoadOK.one ?_ 0 rfl rfl); exact T.one_30)) | (apply G.lss; exact rfl; exact rfl; exact rfl) | (apply G.add; exact rfl; exact rfl; exact rfl; exact IntWalk.i64_in _ (by omega)) | (refine G.indexAddr1 rfl (by exact T.slc_46) (by exact T.sz_3) rfl rfl _ (Int.toNat_of_nonneg (by omega)).symm (by omega) ?_))
      refine Goal.again ⟨j + 1, offM d (ia l3) m2 (tp.tl a) (k + tp.co a), A2⟩ ⟨by dsimp only; omega, g2, ?_, offM_le hmb (by omega)⟩ (by dsimp only; omega) ⟨rfl, rfl, rfl, rfl, rfl, rfl, rfl, trivial⟩ (fun _ h => h)
      dsimp only
      refine (hB.step hta (Q := fun q z c => (ba dn a = false ∧ (tp.hd a = d ∨ tp.over (tp.hd a) = false)) ∧ z = y ∧ q = tp.tl a ∧ c = tp.co a) (fun q z c _ ⟨_, e1, e2, e3⟩ => ⟨e2, fun _ => by rw [e1, e3, hyk]; omega⟩) (fun _ => by omega) fun _ => ⟨y, tp.co a, ⟨a, har, hus.1, by rw [← hha]; exact hus.2, rfl, hha.symm, rfl⟩, by rw [hyk]; omega, by rw [hyk]; omega⟩).sub fun q z c _ hp => hnx q z c hp
    · skip
      repeat' (first | (refine Goal.loud (o := ⟨some 98, _, _, _, _, _⟩) rfl ?_; apply Loud.call0; exact rfl; exact rfl; exact rfl; exact rfl; exact T.bod_51; exact (fun w' H => usable_ok (hR w' H.mod) hS har); rw [decide_eq_false hus]) | (apply G.move; exact rfl; exact rfl) | (apply G.assign; exact rfl; exact rfl) | refine Goal.seq (fun _ _ => ?_) | refine Goal.next (by assumption) ?_ | refine Goal.lnil ?_ | refine Goal.region ?_ | refine Goal.skip ?_ | refine Goal.block ?_ | refine Goal.inBlock_normal ?_ | (apply Goal.condF; exact rfl) | (refine Goal.condD rfl (fun hc => ?_) (fun hc => ?_) <;> first | (exfalso; omega) | skip) | (apply G.fieldAddr; exact rfl; exact rfl; (exact T.fld_100_0)) | (apply G.load; exact rfl; exact rfl; first | exact LoadOK.anyQ T.one_3 hca | ((refine LoadOK.one ?_ 0 rfl rfl); exact T.one_30)) | (apply G.lss; exact rfl; exact rfl; exact rfl) | (apply G.add; exact rfl; exact rfl; exact rfl; exact IntWalk.i64_in _ (by omega)) | (refine G.indexAddr1 rfl (by exact T.slc_46) (by exact T.sz_3) rfl rfl _ (Int.toNat_of_nonneg (by omega)).symm (by omega) ?_))
      refine Goal.again ⟨j + 1, m2, A⟩ ⟨by dsimp only; omega, hA, hB.sub fun q z c _ hp => (hnx q z c hp).elim id fun h => absurd h.1 hus, hmb⟩ (by dsimp only; omega) ⟨rfl, rfl, rfl, rfl, rfl, rfl, rfl, trivial⟩ (fun _ h => h)
  obtain hjl : j = (arcsAt tp.hd tp.arcs.toNat y).length := by omega
  subst hjl
  repeat' (first | refine Goal.seq (fun _ _ => ?_) | refine Goal.next (by assumption) ?_ | refine Goal.lnil ?_ | refine Goal.region ?_ | refine Goal.exit ?_ | refine Goal.then_exit ?_ | refine Goal.inBlock_exit ?_ | refine Goal.inBlock_normal ?_ | (refine Goal.condD rfl (fun hc => ?_) (fun hc => ?_) <;> first | (exfalso; omega) | skip) | (apply G.lss; exact rfl; exact rfl; exact rfl))
  refine Goal.again ⟨l3, m2, k, A⟩ ⟨⟨hl3l, by dsimp only; omega⟩, hA, hB.sub fun q z c ⟨a, ha, u1, u2, u3, u4, u5⟩ _ e => ⟨a, by
    rw [Int.toNat_natCast, List.take_length]
    exact mem_arcsAt.2 ⟨by omega, by rw [← u4]; exact e⟩, ⟨u1, by rw [← u4]; exact u2⟩, u3.symm, u5.symm⟩, hmb⟩ (by dsimp only; exact hmu) ⟨rfl, rfl, rfl, trivial⟩ (fun _ h => h)
end
end Go.Proofs.Ythhhegmhgheeiaa
