/- A channel: what Send does. -/
import Derived.Test.YtgidkddkoopdfaaChD
namespace Go.Proofs.Ytgidkddkoopdfaa
open Go.Wf
set_option linter.unusedVariables false
def fateOf (s : Cs) : Int × Int := if s.off < s.fates.length then el s.fates s.off else (0, 0)
def arr (delay t : Int) (f : Int × Int) : List Int := if f.1 = 1 then [] else if f.1 = 2 then [t + delay, t + delay + f.2] else [t + delay + f.2]
def fateOk (f : Int × Int) : Prop := (f.1 = 0 ∧ f.2 = 0) ∨ (f.1 = 1 ∧ f.2 = 0) ∨ (f.1 = 2 ∧ 0 ≤ f.2 ∧ f.2 ≤ 65536) ∨ (f.1 = 3 ∧ 0 ≤ f.2 ∧ f.2 ≤ 65536)
structure CsOk (s : Cs) : Prop where
  d : 1 ≤ s.delay ∧ s.delay ≤ 65536
  r : 1 ≤ s.rate ∧ s.rate ≤ 1048576
  m : 0 ≤ s.room ∧ s.room ≤ 65536
  f : ∀ f ∈ s.fates, fateOk f
  o : 0 ≤ s.off ∧ s.off ≤ 1048576
  l : (s.D.length : Int) ≤ s.off
  b : ∀ d ∈ s.D, 0 ≤ d ∧ d ≤ 1073741824 + s.off
  n : 0 ≤ s.now
def off1 (s : Cs) (now : Int) : Cs := { s with off := s.off + 1, now := now }
def fit1 (s : Cs) (now : Int) : Cs := { s with off := s.off + 1, now := now, D := s.D ++ [dep s.rate s.D now] }
theorem fateOf_ok {s : Cs} (h : CsOk s) : fateOk (fateOf s) := by
  unfold fateOf
  split
  · exact h.f _ (el_mem ⟨h.o.1, by assumption⟩)
  · exact .inl ⟨rfl, rfl⟩
theorem dep_le {rate now : Int} {D : List Int} {b : Int} (hb : ∀ d ∈ D, 0 ≤ d ∧ d ≤ b) (hn : now ≤ b) : dep rate D now ≤ b + 1 := by
  unfold dep
  by_cases h0 : D.length = 0
  · rw [if_pos h0]; omega
  · have := hb (lst D) (mem_ia ⟨by omega, by omega⟩)
    rw [if_neg h0]
    repeat' split
    all_goals omega
theorem off1_ok {s : Cs} {now : Int} (h : CsOk s) (hn : 0 ≤ now) (ho : s.off < 1048576) : CsOk (off1 s now) :=
  ⟨h.d, h.r, h.m, h.f, by have := h.o; unfold off1; dsimp only; omega, by have := h.l; unfold off1; dsimp only; omega, fun d hd => by have := h.b d hd; unfold off1; dsimp only; omega, hn⟩
theorem fit1_ok {s : Cs} {now : Int} (h : CsOk s) (hn : 0 ≤ now ∧ now ≤ 1073741824) (ho : s.off < 1048576) : CsOk (fit1 s now) := by
  have h1 := h.o
  have h2 := h.l
  refine ⟨h.d, h.r, h.m, h.f, by unfold fit1; dsimp only; omega, by unfold fit1; simp; omega, fun d hd => ?_, hn.1⟩
  unfold fit1 at hd ⊢
  dsimp only at hd ⊢
  rcases List.mem_append.1 hd with hd | hd
  · have := h.b d hd; omega
  · have e := dep_le (rate := s.rate) (now := now) (D := s.D) (b := 1073741824 + s.off) h.b (by omega)
    have e2 := (dep_ge (rate := s.rate) (now := now) (D := s.D)).1
    simp at hd
    omega
theorem LoadOK.elMe {P : Program} {w0 : World} {S : List Nat} {L : List Blk} {α : Type} [Inhabited α] {f : α → List Value} {m : Nat} {T : TypeId} {x : α} (hT : AggB P T m) {b : Nat} {l : List α} {rest : List Value} {E : TypeId} {fz : Nat × Nat} {i : Int} (hf : ∀ a, (f a).length = m) (hL : (b, .cells (Els f l ++ rest).toArray E fz) ∈ L) (hi : 0 ≤ i ∧ i < l.length) (hx : el l i = x) :
    LoadOK P w0 S L T ⟨b, 0 + i.toNat * m, none⟩ (.agg (f x).toArray) := hx ▸ LoadOK.elM hT hf hL hi
theorem LoadOK.elMp {P : Program} {w0 : World} {S : List Nat} {L : List Blk} {x y : Int} {T : TypeId} (hT : AggB P T 2) {b : Nat} {l : List (Int × Int)} {rest : List Value} {E : TypeId} {fz : Nat × Nat} {i : Int} (hL : (b, .cells (Els pr l ++ rest).toArray E fz) ∈ L) (hi : 0 ≤ i ∧ i < l.length) (hx : el l i = (x, y)) :
    LoadOK P w0 S L T ⟨b, 0 + i.toNat * 2, none⟩ (.agg #[.int .i64 x, .int .i64 y]) := LoadOK.elMe (x := (x, y)) hT pr_len hL hi hx
def NewInts (P : Program) (f : FuncId) (args : List Value) (l : List Int) : Prop := ∀ w : World, Calls P f args.toArray w fun e w' => ∃ z : Value × List Blk, Sl z.1 3 1 l.length (ints l) z.2 ∧ e = .returned z.1 ∧ St w [] w' z.2
theorem s1_ok (t n : Int) : NewInts Try.prog 25 [.int .i64 t, .int .i64 n] [t] := fun w => by
  refine Goal.enter (args := [.int .i64 t, .int .i64 n]) Try.func25 rfl Try.ntmps25 rfl (St.nil w) ?_
  repeat' (first
    | (refine Goal.loud (o := ⟨some 6, _, _, _, _, _⟩) rfl ?_; refine Loud.buildSlice (cs := [_]) rfl T.slc_23 T.inf_3 rfl rfl (by decide) rfl rfl rfl (fun b6 => ?_))
    | (apply G.move; exact rfl; exact rfl)
    | (apply G.assign; exact rfl; exact rfl)
    | refine Goal.seq (fun _ _ => ?_)
    | refine Goal.next (by assumption) ?_
    | refine Goal.lnil ?_
    | refine Goal.region ?_
    | refine Goal.skip ?_
    | refine Goal.block ?_
    | refine Goal.exit ?_
    | refine Goal.ret ?_
    | refine Goal.then_exit ?_
    | refine Goal.then_ret ?_
    | refine Goal.inBlock_exit ?_
    | refine Goal.inBlock_normal ?_
    | refine Goal.inBlock_ret ?_
    | refine Goal.inBlock_other rfl ?_
    | (apply Goal.condT; exact rfl)
    | (apply Goal.condF; exact rfl)
    | (refine Goal.condD rfl (fun hc => ?_) (fun hc => ?_) <;> first | (exfalso; omega) | contradiction | skip)
    | refine Goal.condB rfl (fun hc => ?_) (fun hc => ?_))
  refine Goal.done (vs := [_]) (by first | exact .inl rfl | exact .inr rfl) Try.results25 ⟨rfl, trivial⟩ rfl (fun w' H => ⟨⟨_, _⟩, Sl.full rfl, rfl, H⟩)
theorem s2_ok (t n : Int) : NewInts Try.prog 26 [.int .i64 t, .int .i64 n] [] := fun w => by
  refine Goal.enter (args := [.int .i64 t, .int .i64 n]) Try.func26 rfl Try.ntmps26 rfl (St.nil w) ?_
  repeat' (first
    | (apply G.assign; exact rfl; exact rfl)
    | refine Goal.seq (fun _ _ => ?_)
    | refine Goal.next (by assumption) ?_
    | refine Goal.lnil ?_
    | refine Goal.region ?_
    | refine Goal.skip ?_
    | refine Goal.block ?_
    | refine Goal.exit ?_
    | refine Goal.ret ?_
    | refine Goal.then_exit ?_
    | refine Goal.then_ret ?_
    | refine Goal.inBlock_exit ?_
    | refine Goal.inBlock_normal ?_
    | refine Goal.inBlock_ret ?_
    | refine Goal.inBlock_other rfl ?_
    | (apply Goal.condT; exact rfl)
    | (apply Goal.condF; exact rfl)
    | (refine Goal.condD rfl (fun hc => ?_) (fun hc => ?_) <;> first | (exfalso; omega) | contradiction | skip)
    | refine Goal.condB rfl (fun hc => ?_) (fun hc => ?_))
  refine Goal.done (vs := [_]) (by first | exact .inl rfl | exact .inr rfl) Try.results26 ⟨rfl, trivial⟩ rfl (fun w' H => ⟨⟨_, _⟩, Sl.nil 3 1, rfl, H⟩)
theorem s3_ok (t n : Int) (hb : (0 ≤ t ∧ t ≤ 4611686018427387904) ∧ 0 ≤ n ∧ n ≤ 65536) : NewInts Try.prog 27 [.int .i64 t, .int .i64 n] [t, t + n] := fun w => by
  refine Goal.enter (args := [.int .i64 t, .int .i64 n]) Try.func27 rfl Try.ntmps27 rfl (St.nil w) ?_
  repeat' (first
    | (refine Goal.loud (o := ⟨some 9, _, _, _, _, _⟩) rfl ?_; refine Loud.buildSlice (cs := [_, _]) rfl T.slc_23 T.inf_3 rfl rfl (by decide) rfl rfl rfl (fun b9 => ?_))
    | (apply G.move; exact rfl; exact rfl)
    | (apply G.assign; exact rfl; exact rfl)
    | refine Goal.seq (fun _ _ => ?_)
    | refine Goal.next (by assumption) ?_
    | refine Goal.lnil ?_
    | refine Goal.region ?_
    | refine Goal.skip ?_
    | refine Goal.block ?_
    | refine Goal.exit ?_
    | refine Goal.ret ?_
    | refine Goal.then_exit ?_
    | refine Goal.then_ret ?_
    | refine Goal.inBlock_exit ?_
    | refine Goal.inBlock_normal ?_
    | refine Goal.inBlock_ret ?_
    | refine Goal.inBlock_other rfl ?_
    | (apply Goal.condT; exact rfl)
    | (apply Goal.condF; exact rfl)
    | (refine Goal.condD rfl (fun hc => ?_) (fun hc => ?_) <;> first | (exfalso; omega) | contradiction | skip)
    | refine Goal.condB rfl (fun hc => ?_) (fun hc => ?_)
    | (apply G.add; exact rfl; exact rfl; exact rfl; first | exact IntWalk.i64_in _ (by omega) | exact IntWalk.u8_in _ (by omega) | exact IntWalk.u16_in _ (by omega) | exact IntWalk.u32_in _ (by omega) | exact IntWalk.u64_in _ (by omega)))
  refine Goal.done (vs := [_]) (by first | exact .inl rfl | exact .inr rfl) Try.results27 ⟨rfl, trivial⟩ rfl (fun w' H => ⟨⟨_, _⟩, Sl.full rfl, rfl, H⟩)
theorem s4_ok (t n : Int) (hb : (0 ≤ t ∧ t ≤ 4611686018427387904) ∧ 0 ≤ n ∧ n ≤ 65536) : NewInts Try.prog 28 [.int .i64 t, .int .i64 n] [t + n] := fun w => by
  refine Goal.enter (args := [.int .i64 t, .int .i64 n]) Try.func28 rfl Try.ntmps28 rfl (St.nil w) ?_
  repeat' (first
    | (refine Goal.loud (o := ⟨some 8, _, _, _, _, _⟩) rfl ?_; refine Loud.buildSlice (cs := [_]) rfl T.slc_23 T.inf_3 rfl rfl (by decide) rfl rfl rfl (fun b8 => ?_))
    | (apply G.move; exact rfl; exact rfl)
    | (apply G.assign; exact rfl; exact rfl)
    | refine Goal.seq (fun _ _ => ?_)
    | refine Goal.next (by assumption) ?_
    | refine Goal.lnil ?_
    | refine Goal.region ?_
    | refine Goal.skip ?_
    | refine Goal.block ?_
    | refine Goal.exit ?_
    | refine Goal.ret ?_
    | refine Goal.then_exit ?_
    | refine Goal.then_ret ?_
    | refine Goal.inBlock_exit ?_
    | refine Goal.inBlock_normal ?_
    | refine Goal.inBlock_ret ?_
    | refine Goal.inBlock_other rfl ?_
    | (apply Goal.condT; exact rfl)
    | (apply Goal.condF; exact rfl)
    | (refine Goal.condD rfl (fun hc => ?_) (fun hc => ?_) <;> first | (exfalso; omega) | contradiction | skip)
    | refine Goal.condB rfl (fun hc => ?_) (fun hc => ?_)
    | (apply G.add; exact rfl; exact rfl; exact rfl; first | exact IntWalk.i64_in _ (by omega) | exact IntWalk.u8_in _ (by omega) | exact IntWalk.u16_in _ (by omega) | exact IntWalk.u32_in _ (by omega) | exact IntWalk.u64_in _ (by omega)))
  refine Goal.done (vs := [_]) (by first | exact .inl rfl | exact .inr rfl) Try.results28 ⟨rfl, trivial⟩ rfl (fun w' H => ⟨⟨_, _⟩, Sl.full rfl, rfl, H⟩)
section
variable {bc : Nat} {s : Cs} {A : List Blk}
theorem send_nil (now : Int) (w : World) : Calls Try.prog 13 #[.pointer none, .int .i64 now] w fun e w' => e = .returned (.tuple #[.slice none 0 0, .int .i64 7]) ∧ Mod [] w w' := by
  refine Goal.enter (args := [.pointer none, .int .i64 now]) Try.func13 rfl Try.ntmps13 rfl (St.nil w) ?_
  repeat' (first
    | (refine Goal.loud (o := ⟨some 6, _, _, _, _, _⟩) rfl ?_; refine Loud.allocA rfl T.inf_50 (fun b6 => ?_))
    | (refine Goal.loud (o := ⟨some 9, _, _, _, _, _⟩) rfl ?_; refine Loud.allocA rfl T.inf_59 (fun b9 => ?_))
    | (apply G.move; exact rfl; exact rfl)
    | (apply G.assign; exact rfl; exact rfl)
    | refine Goal.seq (fun _ _ => ?_)
    | refine Goal.next (by assumption) ?_
    | refine Goal.lnil ?_
    | refine Goal.region ?_
    | refine Goal.skip ?_
    | refine Goal.block ?_
    | refine Goal.exit ?_
    | refine Goal.ret ?_
    | refine Goal.then_exit ?_
    | refine Goal.then_ret ?_
    | refine Goal.inBlock_exit ?_
    | refine Goal.inBlock_normal ?_
    | refine Goal.inBlock_ret ?_
    | refine Goal.inBlock_other rfl ?_
    | (apply Goal.condT; exact rfl)
    | (apply Goal.condF; exact rfl)
    | (refine Goal.condD rfl (fun hc => ?_) (fun hc => ?_) <;> first | (exfalso; omega) | contradiction | skip)
    | refine Goal.condB rfl (fun hc => ?_) (fun hc => ?_)
    | refine Goal.guardT rfl rfl ?_
    | refine Goal.guardF rfl rfl rfl rfl ?_
    | refine Goal.guardU rfl rfl rfl ?_
    | (refine Goal.guardD rfl rfl (fun hc => ?_) (fun hc => ?_) <;> first | (exfalso; omega) | contradiction | skip)
    | refine Goal.guardB rfl rfl (fun hc => ?_) (fun hc => ?_)
    | (apply G.fieldAddr; exact rfl; exact rfl; (first | exact T.fld_50_0 | exact T.fld_50_1 | exact T.fld_55_0 | exact T.fld_55_2 | exact T.fld_55_3 | exact T.fld_55_4 | exact T.fld_55_5 | exact T.fld_55_6 | exact T.fld_57_0 | exact T.fld_57_1))
    | (apply G.load; exact rfl; exact rfl; first | exact LoadOK.one (by first | exact T.one_3 | exact T.one_37 | exact T.one_53 | exact T.one_58) 0 rfl rfl | exact LoadOK.one (by first | exact T.one_3 | exact T.one_37 | exact T.one_53 | exact T.one_58) 1 rfl rfl | exact LoadOK.one (by first | exact T.one_3 | exact T.one_37 | exact T.one_53 | exact T.one_58) 2 rfl rfl | exact LoadOK.one (by first | exact T.one_3 | exact T.one_37 | exact T.one_53 | exact T.one_58) 3 rfl rfl | exact LoadOK.one (by first | exact T.one_3 | exact T.one_37 | exact T.one_53 | exact T.one_58) 4 rfl rfl | exact LoadOK.one (by first | exact T.one_3 | exact T.one_37 | exact T.one_53 | exact T.one_58) 5 rfl rfl | exact LoadOK.one (by first | exact T.one_3 | exact T.one_37 | exact T.one_53 | exact T.one_58) 6 rfl rfl | exact LoadOK.one (by first | exact T.one_3 | exact T.one_37 | exact T.one_53 | exact T.one_58) 7 rfl rfl | exact LoadOK.agg (vs := [_, _]) T.agg_50 0 rfl rfl ⟨rfl, rfl, trivial⟩ | exact LoadOK.agg (vs := [_, _]) T.agg_50 1 rfl rfl ⟨rfl, rfl, trivial⟩ | exact LoadOK.agg (vs := [_, _]) T.agg_50 2 rfl rfl ⟨rfl, rfl, trivial⟩ | exact LoadOK.agg (vs := [_, _]) T.agg_50 3 rfl rfl ⟨rfl, rfl, trivial⟩ | exact LoadOK.agg (vs := [_, _]) T.agg_50 4 rfl rfl ⟨rfl, rfl, trivial⟩ | exact LoadOK.agg (vs := [_, _]) T.agg_50 5 rfl rfl ⟨rfl, rfl, trivial⟩ | exact LoadOK.agg (vs := [_, _]) T.agg_50 6 rfl rfl ⟨rfl, rfl, trivial⟩ | exact LoadOK.agg (vs := [_, _]) T.agg_50 7 rfl rfl ⟨rfl, rfl, trivial⟩)
    | (apply G.pickT; exact rfl; exact rfl; exact rfl)
    | (apply G.pickF; exact rfl; exact rfl; exact rfl)
    | (apply G.lss; exact rfl; exact rfl; exact rfl)
    | (apply G.gtr; exact rfl; exact rfl; exact rfl)
    | (apply G.geq; exact rfl; exact rfl; exact rfl)
    | (apply G.eql; exact rfl; exact rfl; exact rfl)
    | (apply G.neq; exact rfl; exact rfl; exact rfl)
    | (apply G.add; exact rfl; exact rfl; exact rfl; first | exact IntWalk.i64_in _ (by omega) | exact IntWalk.u8_in _ (by omega) | exact IntWalk.u16_in _ (by omega) | exact IntWalk.u32_in _ (by omega) | exact IntWalk.u64_in _ (by omega))
    | (apply G.sub; exact rfl; exact rfl; exact rfl; first | exact IntWalk.i64_in _ (by omega) | exact IntWalk.u8_in _ (by omega) | exact IntWalk.u16_in _ (by omega) | exact IntWalk.u32_in _ (by omega) | exact IntWalk.u64_in _ (by omega))
    | (refine Goal.quiet rfl (Run.eqlP T.ptr_29 rfl rfl rfl) ?_)
    | (refine Goal.quiet rfl (Run.neqP T.ptr_29 rfl rfl rfl) ?_)
    | (apply G.build (cs := [_, _]); exact rfl; exact T.lay_57; exact rfl; exact rfl)
    | (apply G.build (cs := [_, _, _, _]); exact rfl; exact T.lay_59; exact rfl; exact rfl)
    | (apply G.len; exact rfl; exact rfl; (first | exact T.slc_37 | exact T.slc_53))
    | (apply G.nilCheckP; exact rfl; exact rfl)
    | (refine G.indexAddr1 rfl (by first | exact T.slc_37 | exact T.slc_53) T.sz_58 rfl rfl _ rfl (by omega) ?_)
    | (refine G.indexAddr1 rfl (by first | exact T.slc_37 | exact T.slc_53) T.sz_58 rfl rfl _ (Int.toNat_of_nonneg (by omega)).symm (by omega) ?_)
    | (refine G.indexAddr rfl (by first | exact T.slc_37 | exact T.slc_53) (by first | exact T.sz_50 | exact T.sz_57) rfl rfl _ rfl (by omega) ?_)
    | (refine G.indexAddr rfl (by first | exact T.slc_37 | exact T.slc_53) (by first | exact T.sz_50 | exact T.sz_57) rfl rfl _ (Int.toNat_of_nonneg (by omega)).symm (by omega) ?_)
    | (refine G.indexAddrA rfl T.arr_59 (by first | exact T.sz_50 | exact T.sz_57 | exact T.sz_58) rfl rfl _ rfl (by omega) ?_)
    | (refine G.indexAddrA rfl T.arr_59 (by first | exact T.sz_50 | exact T.sz_57 | exact T.sz_58) rfl rfl _ (Int.toNat_of_nonneg (by omega)).symm (by omega) ?_)
    | (refine Goal.loud rfl ?_; refine Loud.store0 rfl rfl (by first | exact T.sz_3 | exact T.sz_50 | exact T.sz_53 | exact T.sz_59) rfl rfl rfl (by first | exact Nat.le_of_ble_eq_true rfl | exact Nat.le_refl _ | decide | (simp; omega)) rfl ?_)
    | (refine Goal.loud rfl ?_; refine Loud.store1 rfl rfl (by first | exact T.sz_3 | exact T.sz_50 | exact T.sz_53 | exact T.sz_59) rfl rfl rfl (by first | exact Nat.le_of_ble_eq_true rfl | exact Nat.le_refl _ | decide | (simp; omega)) rfl ?_)
    | (refine Goal.loud rfl ?_; refine Loud.store2 rfl rfl (by first | exact T.sz_3 | exact T.sz_50 | exact T.sz_53 | exact T.sz_59) rfl rfl rfl (by first | exact Nat.le_of_ble_eq_true rfl | exact Nat.le_refl _ | decide | (simp; omega)) rfl ?_)
    | (refine Goal.loud rfl ?_; refine Loud.store3 rfl rfl (by first | exact T.sz_3 | exact T.sz_50 | exact T.sz_53 | exact T.sz_59) rfl rfl rfl (by first | exact Nat.le_of_ble_eq_true rfl | exact Nat.le_refl _ | decide | (simp; omega)) rfl ?_)
    | (refine Goal.loud rfl ?_; refine Loud.store4 rfl rfl (by first | exact T.sz_3 | exact T.sz_50 | exact T.sz_53 | exact T.sz_59) rfl rfl rfl (by first | exact Nat.le_of_ble_eq_true rfl | exact Nat.le_refl _ | decide | (simp; omega)) rfl ?_)
    | (refine Goal.loud rfl ?_; refine Loud.store5 rfl rfl (by first | exact T.sz_3 | exact T.sz_50 | exact T.sz_53 | exact T.sz_59) rfl rfl rfl (by first | exact Nat.le_of_ble_eq_true rfl | exact Nat.le_refl _ | decide | (simp; omega)) rfl ?_)
    | (refine Goal.loud rfl ?_; refine Loud.store6 rfl rfl (by first | exact T.sz_3 | exact T.sz_50 | exact T.sz_53 | exact T.sz_59) rfl rfl rfl (by first | exact Nat.le_of_ble_eq_true rfl | exact Nat.le_refl _ | decide | (simp; omega)) rfl ?_)
    | (refine Goal.loud rfl ?_; refine Loud.store7 rfl rfl (by first | exact T.sz_3 | exact T.sz_50 | exact T.sz_53 | exact T.sz_59) rfl rfl rfl (by first | exact Nat.le_of_ble_eq_true rfl | exact Nat.le_refl _ | decide | (simp; omega)) rfl ?_))
  refine Goal.done (vs := [_, _]) (by first | exact .inl rfl | exact .inr rfl) Try.results13 ⟨rfl, rfl, trivial⟩ rfl (fun w' H => ⟨rfl, H.mod⟩)
theorem send_bad (hA : ChM bc s A) (now : Int) (h : (now < 0 ∨ 1073741824 < now) ∨ now < s.now) :
    MCalls Try.prog 13 [.pointer (some ⟨bc, 0, none⟩), .int .i64 now] A (fun _ : Unit => True) (fun _ => .tuple #[.slice none 0 0, .int .i64 (if now < 0 ∨ 1073741824 < now then 1 else 7)]) (fun _ => A) := .mk fun w hw => by
  obtain ⟨R, vS, vR, AS, AR, rfl, hS, hR, hrep⟩ := hA
  by_cases h1 : now < 0 ∨ 1073741824 < now
  · refine Goal.enter (args := [.pointer (some ⟨bc, 0, none⟩), .int .i64 now]) Try.func13 rfl Try.ntmps13 rfl (hw) ?_
    repeat' (first
      | (refine Goal.loud (o := ⟨some 6, _, _, _, _, _⟩) rfl ?_; refine Loud.allocA rfl T.inf_50 (fun b6 => ?_))
      | (refine Goal.loud (o := ⟨some 9, _, _, _, _, _⟩) rfl ?_; refine Loud.allocA rfl T.inf_59 (fun b9 => ?_))
      | (apply G.move; exact rfl; exact rfl)
      | (apply G.assign; exact rfl; exact rfl)
      | refine Goal.seq (fun _ _ => ?_)
      | refine Goal.next (by assumption) ?_
      | refine Goal.lnil ?_
      | refine Goal.region ?_
      | refine Goal.skip ?_
      | refine Goal.block ?_
      | refine Goal.exit ?_
      | refine Goal.ret ?_
      | refine Goal.then_exit ?_
      | refine Goal.then_ret ?_
      | refine Goal.inBlock_exit ?_
      | refine Goal.inBlock_normal ?_
      | refine Goal.inBlock_ret ?_
      | refine Goal.inBlock_other rfl ?_
      | (apply Goal.condT; exact rfl)
      | (apply Goal.condF; exact rfl)
      | (refine Goal.condD rfl (fun hc => ?_) (fun hc => ?_) <;> first | (exfalso; omega) | contradiction | skip)
      | refine Goal.condB rfl (fun hc => ?_) (fun hc => ?_)
      | refine Goal.guardT rfl rfl ?_
      | refine Goal.guardF rfl rfl rfl rfl ?_
      | refine Goal.guardU rfl rfl rfl ?_
      | (refine Goal.guardD rfl rfl (fun hc => ?_) (fun hc => ?_) <;> first | (exfalso; omega) | contradiction | skip)
      | refine Goal.guardB rfl rfl (fun hc => ?_) (fun hc => ?_)
      | (apply G.fieldAddr; exact rfl; exact rfl; (first | exact T.fld_50_0 | exact T.fld_50_1 | exact T.fld_55_0 | exact T.fld_55_2 | exact T.fld_55_3 | exact T.fld_55_4 | exact T.fld_55_5 | exact T.fld_55_6 | exact T.fld_57_0 | exact T.fld_57_1))
      | (apply G.load; exact rfl; exact rfl; first | exact LoadOK.one (by first | exact T.one_3 | exact T.one_37 | exact T.one_53 | exact T.one_58) 0 rfl rfl | exact LoadOK.one (by first | exact T.one_3 | exact T.one_37 | exact T.one_53 | exact T.one_58) 1 rfl rfl | exact LoadOK.one (by first | exact T.one_3 | exact T.one_37 | exact T.one_53 | exact T.one_58) 2 rfl rfl | exact LoadOK.one (by first | exact T.one_3 | exact T.one_37 | exact T.one_53 | exact T.one_58) 3 rfl rfl | exact LoadOK.one (by first | exact T.one_3 | exact T.one_37 | exact T.one_53 | exact T.one_58) 4 rfl rfl | exact LoadOK.one (by first | exact T.one_3 | exact T.one_37 | exact T.one_53 | exact T.one_58) 5 rfl rfl | exact LoadOK.one (by first | exact T.one_3 | exact T.one_37 | exact T.one_53 | exact T.one_58) 6 rfl rfl | exact LoadOK.one (by first | exact T.one_3 | exact T.one_37 | exact T.one_53 | exact T.one_58) 7 rfl rfl | exact LoadOK.agg (vs := [_, _]) T.agg_50 0 rfl rfl ⟨rfl, rfl, trivial⟩ | exact LoadOK.agg (vs := [_, _]) T.agg_50 1 rfl rfl ⟨rfl, rfl, trivial⟩ | exact LoadOK.agg (vs := [_, _]) T.agg_50 2 rfl rfl ⟨rfl, rfl, trivial⟩ | exact LoadOK.agg (vs := [_, _]) T.agg_50 3 rfl rfl ⟨rfl, rfl, trivial⟩ | exact LoadOK.agg (vs := [_, _]) T.agg_50 4 rfl rfl ⟨rfl, rfl, trivial⟩ | exact LoadOK.agg (vs := [_, _]) T.agg_50 5 rfl rfl ⟨rfl, rfl, trivial⟩ | exact LoadOK.agg (vs := [_, _]) T.agg_50 6 rfl rfl ⟨rfl, rfl, trivial⟩ | exact LoadOK.agg (vs := [_, _]) T.agg_50 7 rfl rfl ⟨rfl, rfl, trivial⟩)
      | (apply G.pickT; exact rfl; exact rfl; exact rfl)
      | (apply G.pickF; exact rfl; exact rfl; exact rfl)
      | (apply G.lss; exact rfl; exact rfl; exact rfl)
      | (apply G.gtr; exact rfl; exact rfl; exact rfl)
      | (apply G.geq; exact rfl; exact rfl; exact rfl)
      | (apply G.eql; exact rfl; exact rfl; exact rfl)
      | (apply G.neq; exact rfl; exact rfl; exact rfl)
      | (apply G.add; exact rfl; exact rfl; exact rfl; first | exact IntWalk.i64_in _ (by omega) | exact IntWalk.u8_in _ (by omega) | exact IntWalk.u16_in _ (by omega) | exact IntWalk.u32_in _ (by omega) | exact IntWalk.u64_in _ (by omega))
      | (apply G.sub; exact rfl; exact rfl; exact rfl; first | exact IntWalk.i64_in _ (by omega) | exact IntWalk.u8_in _ (by omega) | exact IntWalk.u16_in _ (by omega) | exact IntWalk.u32_in _ (by omega) | exact IntWalk.u64_in _ (by omega))
      | (refine Goal.quiet rfl (Run.eqlP T.ptr_29 rfl rfl rfl) ?_)
      | (refine Goal.quiet rfl (Run.neqP T.ptr_29 rfl rfl rfl) ?_)
      | (apply G.build (cs := [_, _]); exact rfl; exact T.lay_57; exact rfl; exact rfl)
      | (apply G.build (cs := [_, _, _, _]); exact rfl; exact T.lay_59; exact rfl; exact rfl)
      | (apply G.len; exact rfl; exact rfl; (first | exact T.slc_37 | exact T.slc_53))
      | (apply G.nilCheckP; exact rfl; exact rfl)
      | (refine G.indexAddr1 rfl (by first | exact T.slc_37 | exact T.slc_53) T.sz_58 rfl rfl _ rfl (by omega) ?_)
      | (refine G.indexAddr1 rfl (by first | exact T.slc_37 | exact T.slc_53) T.sz_58 rfl rfl _ (Int.toNat_of_nonneg (by omega)).symm (by omega) ?_)
      | (refine G.indexAddr rfl (by first | exact T.slc_37 | exact T.slc_53) (by first | exact T.sz_50 | exact T.sz_57) rfl rfl _ rfl (by omega) ?_)
      | (refine G.indexAddr rfl (by first | exact T.slc_37 | exact T.slc_53) (by first | exact T.sz_50 | exact T.sz_57) rfl rfl _ (Int.toNat_of_nonneg (by omega)).symm (by omega) ?_)
      | (refine G.indexAddrA rfl T.arr_59 (by first | exact T.sz_50 | exact T.sz_57 | exact T.sz_58) rfl rfl _ rfl (by omega) ?_)
      | (refine G.indexAddrA rfl T.arr_59 (by first | exact T.sz_50 | exact T.sz_57 | exact T.sz_58) rfl rfl _ (Int.toNat_of_nonneg (by omega)).symm (by omega) ?_)
      | (refine Goal.loud rfl ?_; refine Loud.store0 rfl rfl (by first | exact T.sz_3 | exact T.sz_50 | exact T.sz_53 | exact T.sz_59) rfl rfl rfl (by first | exact Nat.le_of_ble_eq_true rfl | exact Nat.le_refl _ | decide | (simp; omega)) rfl ?_)
      | (refine Goal.loud rfl ?_; refine Loud.store1 rfl rfl (by first | exact T.sz_3 | exact T.sz_50 | exact T.sz_53 | exact T.sz_59) rfl rfl rfl (by first | exact Nat.le_of_ble_eq_true rfl | exact Nat.le_refl _ | decide | (simp; omega)) rfl ?_)
      | (refine Goal.loud rfl ?_; refine Loud.store2 rfl rfl (by first | exact T.sz_3 | exact T.sz_50 | exact T.sz_53 | exact T.sz_59) rfl rfl rfl (by first | exact Nat.le_of_ble_eq_true rfl | exact Nat.le_refl _ | decide | (simp; omega)) rfl ?_)
      | (refine Goal.loud rfl ?_; refine Loud.store3 rfl rfl (by first | exact T.sz_3 | exact T.sz_50 | exact T.sz_53 | exact T.sz_59) rfl rfl rfl (by first | exact Nat.le_of_ble_eq_true rfl | exact Nat.le_refl _ | decide | (simp; omega)) rfl ?_)
      | (refine Goal.loud rfl ?_; refine Loud.store4 rfl rfl (by first | exact T.sz_3 | exact T.sz_50 | exact T.sz_53 | exact T.sz_59) rfl rfl rfl (by first | exact Nat.le_of_ble_eq_true rfl | exact Nat.le_refl _ | decide | (simp; omega)) rfl ?_)
      | (refine Goal.loud rfl ?_; refine Loud.store5 rfl rfl (by first | exact T.sz_3 | exact T.sz_50 | exact T.sz_53 | exact T.sz_59) rfl rfl rfl (by first | exact Nat.le_of_ble_eq_true rfl | exact Nat.le_refl _ | decide | (simp; omega)) rfl ?_)
      | (refine Goal.loud rfl ?_; refine Loud.store6 rfl rfl (by first | exact T.sz_3 | exact T.sz_50 | exact T.sz_53 | exact T.sz_59) rfl rfl rfl (by first | exact Nat.le_of_ble_eq_true rfl | exact Nat.le_refl _ | decide | (simp; omega)) rfl ?_)
      | (refine Goal.loud rfl ?_; refine Loud.store7 rfl rfl (by first | exact T.sz_3 | exact T.sz_50 | exact T.sz_53 | exact T.sz_59) rfl rfl rfl (by first | exact Nat.le_of_ble_eq_true rfl | exact Nat.le_refl _ | decide | (simp; omega)) rfl ?_))
    all_goals
      refine Goal.done (vs := [_, _]) (by first | exact .inl rfl | exact .inr rfl) Try.results13 ⟨rfl, rfl, trivial⟩ rfl (fun w' H => ⟨(), trivial, by rw [if_pos h1], H⟩)
  · refine Goal.enter (args := [.pointer (some ⟨bc, 0, none⟩), .int .i64 now]) Try.func13 rfl Try.ntmps13 rfl (hw) ?_
    repeat' (first
      | (refine Goal.loud (o := ⟨some 6, _, _, _, _, _⟩) rfl ?_; refine Loud.allocA rfl T.inf_50 (fun b6 => ?_))
      | (refine Goal.loud (o := ⟨some 9, _, _, _, _, _⟩) rfl ?_; refine Loud.allocA rfl T.inf_59 (fun b9 => ?_))
      | (apply G.move; exact rfl; exact rfl)
      | (apply G.assign; exact rfl; exact rfl)
      | refine Goal.seq (fun _ _ => ?_)
      | refine Goal.next (by assumption) ?_
      | refine Goal.lnil ?_
      | refine Goal.region ?_
      | refine Goal.skip ?_
      | refine Goal.block ?_
      | refine Goal.exit ?_
      | refine Goal.ret ?_
      | refine Goal.then_exit ?_
      | refine Goal.then_ret ?_
      | refine Goal.inBlock_exit ?_
      | refine Goal.inBlock_normal ?_
      | refine Goal.inBlock_ret ?_
      | refine Goal.inBlock_other rfl ?_
      | (apply Goal.condT; exact rfl)
      | (apply Goal.condF; exact rfl)
      | (refine Goal.condD rfl (fun hc => ?_) (fun hc => ?_) <;> first | (exfalso; omega) | contradiction | skip)
      | refine Goal.condB rfl (fun hc => ?_) (fun hc => ?_)
      | refine Goal.guardT rfl rfl ?_
      | refine Goal.guardF rfl rfl rfl rfl ?_
      | refine Goal.guardU rfl rfl rfl ?_
      | (refine Goal.guardD rfl rfl (fun hc => ?_) (fun hc => ?_) <;> first | (exfalso; omega) | contradiction | skip)
      | refine Goal.guardB rfl rfl (fun hc => ?_) (fun hc => ?_)
      | (apply G.fieldAddr; exact rfl; exact rfl; (first | exact T.fld_50_0 | exact T.fld_50_1 | exact T.fld_55_0 | exact T.fld_55_2 | exact T.fld_55_3 | exact T.fld_55_4 | exact T.fld_55_5 | exact T.fld_55_6 | exact T.fld_57_0 | exact T.fld_57_1))
      | (apply G.load; exact rfl; exact rfl; first | exact LoadOK.one (by first | exact T.one_3 | exact T.one_37 | exact T.one_53 | exact T.one_58) 0 rfl rfl | exact LoadOK.one (by first | exact T.one_3 | exact T.one_37 | exact T.one_53 | exact T.one_58) 1 rfl rfl | exact LoadOK.one (by first | exact T.one_3 | exact T.one_37 | exact T.one_53 | exact T.one_58) 2 rfl rfl | exact LoadOK.one (by first | exact T.one_3 | exact T.one_37 | exact T.one_53 | exact T.one_58) 3 rfl rfl | exact LoadOK.one (by first | exact T.one_3 | exact T.one_37 | exact T.one_53 | exact T.one_58) 4 rfl rfl | exact LoadOK.one (by first | exact T.one_3 | exact T.one_37 | exact T.one_53 | exact T.one_58) 5 rfl rfl | exact LoadOK.one (by first | exact T.one_3 | exact T.one_37 | exact T.one_53 | exact T.one_58) 6 rfl rfl | exact LoadOK.one (by first | exact T.one_3 | exact T.one_37 | exact T.one_53 | exact T.one_58) 7 rfl rfl | exact LoadOK.agg (vs := [_, _]) T.agg_50 0 rfl rfl ⟨rfl, rfl, trivial⟩ | exact LoadOK.agg (vs := [_, _]) T.agg_50 1 rfl rfl ⟨rfl, rfl, trivial⟩ | exact LoadOK.agg (vs := [_, _]) T.agg_50 2 rfl rfl ⟨rfl, rfl, trivial⟩ | exact LoadOK.agg (vs := [_, _]) T.agg_50 3 rfl rfl ⟨rfl, rfl, trivial⟩ | exact LoadOK.agg (vs := [_, _]) T.agg_50 4 rfl rfl ⟨rfl, rfl, trivial⟩ | exact LoadOK.agg (vs := [_, _]) T.agg_50 5 rfl rfl ⟨rfl, rfl, trivial⟩ | exact LoadOK.agg (vs := [_, _]) T.agg_50 6 rfl rfl ⟨rfl, rfl, trivial⟩ | exact LoadOK.agg (vs := [_, _]) T.agg_50 7 rfl rfl ⟨rfl, rfl, trivial⟩)
      | (apply G.pickT; exact rfl; exact rfl; exact rfl)
      | (apply G.pickF; exact rfl; exact rfl; exact rfl)
      | (apply G.lss; exact rfl; exact rfl; exact rfl)
      | (apply G.gtr; exact rfl; exact rfl; exact rfl)
      | (apply G.geq; exact rfl; exact rfl; exact rfl)
      | (apply G.eql; exact rfl; exact rfl; exact rfl)
      | (apply G.neq; exact rfl; exact rfl; exact rfl)
      | (apply G.add; exact rfl; exact rfl; exact rfl; first | exact IntWalk.i64_in _ (by omega) | exact IntWalk.u8_in _ (by omega) | exact IntWalk.u16_in _ (by omega) | exact IntWalk.u32_in _ (by omega) | exact IntWalk.u64_in _ (by omega))
      | (apply G.sub; exact rfl; exact rfl; exact rfl; first | exact IntWalk.i64_in _ (by omega) | exact IntWalk.u8_in _ (by omega) | exact IntWalk.u16_in _ (by omega) | exact IntWalk.u32_in _ (by omega) | exact IntWalk.u64_in _ (by omega))
      | (refine Goal.quiet rfl (Run.eqlP T.ptr_29 rfl rfl rfl) ?_)
      | (refine Goal.quiet rfl (Run.neqP T.ptr_29 rfl rfl rfl) ?_)
      | (apply G.build (cs := [_, _]); exact rfl; exact T.lay_57; exact rfl; exact rfl)
      | (apply G.build (cs := [_, _, _, _]); exact rfl; exact T.lay_59; exact rfl; exact rfl)
      | (apply G.len; exact rfl; exact rfl; (first | exact T.slc_37 | exact T.slc_53))
      | (apply G.nilCheckP; exact rfl; exact rfl)
      | (refine G.indexAddr1 rfl (by first | exact T.slc_37 | exact T.slc_53) T.sz_58 rfl rfl _ rfl (by omega) ?_)
      | (refine G.indexAddr1 rfl (by first | exact T.slc_37 | exact T.slc_53) T.sz_58 rfl rfl _ (Int.toNat_of_nonneg (by omega)).symm (by omega) ?_)
      | (refine G.indexAddr rfl (by first | exact T.slc_37 | exact T.slc_53) (by first | exact T.sz_50 | exact T.sz_57) rfl rfl _ rfl (by omega) ?_)
      | (refine G.indexAddr rfl (by first | exact T.slc_37 | exact T.slc_53) (by first | exact T.sz_50 | exact T.sz_57) rfl rfl _ (Int.toNat_of_nonneg (by omega)).symm (by omega) ?_)
      | (refine G.indexAddrA rfl T.arr_59 (by first | exact T.sz_50 | exact T.sz_57 | exact T.sz_58) rfl rfl _ rfl (by omega) ?_)
      | (refine G.indexAddrA rfl T.arr_59 (by first | exact T.sz_50 | exact T.sz_57 | exact T.sz_58) rfl rfl _ (Int.toNat_of_nonneg (by omega)).symm (by omega) ?_)
      | (refine Goal.loud rfl ?_; refine Loud.store0 rfl rfl (by first | exact T.sz_3 | exact T.sz_50 | exact T.sz_53 | exact T.sz_59) rfl rfl rfl (by first | exact Nat.le_of_ble_eq_true rfl | exact Nat.le_refl _ | decide | (simp; omega)) rfl ?_)
      | (refine Goal.loud rfl ?_; refine Loud.store1 rfl rfl (by first | exact T.sz_3 | exact T.sz_50 | exact T.sz_53 | exact T.sz_59) rfl rfl rfl (by first | exact Nat.le_of_ble_eq_true rfl | exact Nat.le_refl _ | decide | (simp; omega)) rfl ?_)
      | (refine Goal.loud rfl ?_; refine Loud.store2 rfl rfl (by first | exact T.sz_3 | exact T.sz_50 | exact T.sz_53 | exact T.sz_59) rfl rfl rfl (by first | exact Nat.le_of_ble_eq_true rfl | exact Nat.le_refl _ | decide | (simp; omega)) rfl ?_)
      | (refine Goal.loud rfl ?_; refine Loud.store3 rfl rfl (by first | exact T.sz_3 | exact T.sz_50 | exact T.sz_53 | exact T.sz_59) rfl rfl rfl (by first | exact Nat.le_of_ble_eq_true rfl | exact Nat.le_refl _ | decide | (simp; omega)) rfl ?_)
      | (refine Goal.loud rfl ?_; refine Loud.store4 rfl rfl (by first | exact T.sz_3 | exact T.sz_50 | exact T.sz_53 | exact T.sz_59) rfl rfl rfl (by first | exact Nat.le_of_ble_eq_true rfl | exact Nat.le_refl _ | decide | (simp; omega)) rfl ?_)
      | (refine Goal.loud rfl ?_; refine Loud.store5 rfl rfl (by first | exact T.sz_3 | exact T.sz_50 | exact T.sz_53 | exact T.sz_59) rfl rfl rfl (by first | exact Nat.le_of_ble_eq_true rfl | exact Nat.le_refl _ | decide | (simp; omega)) rfl ?_)
      | (refine Goal.loud rfl ?_; refine Loud.store6 rfl rfl (by first | exact T.sz_3 | exact T.sz_50 | exact T.sz_53 | exact T.sz_59) rfl rfl rfl (by first | exact Nat.le_of_ble_eq_true rfl | exact Nat.le_refl _ | decide | (simp; omega)) rfl ?_)
      | (refine Goal.loud rfl ?_; refine Loud.store7 rfl rfl (by first | exact T.sz_3 | exact T.sz_50 | exact T.sz_53 | exact T.sz_59) rfl rfl rfl (by first | exact Nat.le_of_ble_eq_true rfl | exact Nat.le_refl _ | decide | (simp; omega)) rfl ?_))
    all_goals
      refine Goal.done (vs := [_, _]) (by first | exact .inl rfl | exact .inr rfl) Try.results13 ⟨rfl, rfl, trivial⟩ rfl (fun w' H => ⟨(), trivial, by rw [if_neg h1], H⟩)
theorem dep1 {now : Int} (hA : ChM bc (off1 s now) A) (hl : s.D.length ≤ 1099511627776) (hd : ∀ d ∈ s.D, 0 ≤ d ∧ d ≤ 2199023255552) :
    MCalls Try.prog 23 [.pointer (some ⟨bc, 0, none⟩), .int .i64 now] A (fun _ : Unit => True) (fun _ => .int .i64 (dep s.rate s.D now)) (fun _ => A) := departure_ok hA hl hd now
theorem wait1 {now : Int} (hA : ChM bc (off1 s now) A) (hl : s.D.length ≤ 1099511627776) :
    MCalls Try.prog 16 [.pointer (some ⟨bc, 0, none⟩), .int .i64 now] A (fun _ : Unit => True) (fun _ => .int .i64 (s.D.length - cle s.D now)) (fun _ => A) := waiting_ok hA hl now
theorem acc1 {now : Int} (hA : ChM bc (off1 s now) A) (hl : s.D.length ≤ 1099511627776) :
    MCalls Try.prog 24 [.pointer (some ⟨bc, 0, none⟩)] A (fun _ : Unit => True) (fun _ => .int .i64 s.D.length) (fun _ => A) := accepted_ok (s := off1 s now) hA hl
set_option maxHeartbeats 4000000 in
theorem send_cap (hA : ChM bc s A) (hs : CsOk s) (ho : s.off < 1048576) (now : Int) (h : (0 ≤ now ∧ now ≤ 1073741824) ∧ s.now ≤ now) (hc1 : dep s.rate s.D now ≠ now ∧ s.room ≤ s.D.length - cle s.D now) :
    MCalls Try.prog 13 [.pointer (some ⟨bc, 0, none⟩), .int .i64 now] A (fun A' : List Blk => ChM bc (off1 s now) A') (fun _ => .tuple #[.slice none 0 0, .int .i64 12]) (fun A' => A') := .mk fun w hw => by
  have hf : ∀ a, (pr a).length = 2 := pr_len
  obtain ⟨R, vS, vR, AS, AR, rfl, hS, hR, hrep⟩ := id hA
  have h2 := hs.o
  have h3 := hs.l
  have hb : ∀ d ∈ s.D, 0 ≤ d ∧ d ≤ 2199023255552 := fun d hd => by have := hs.b d hd; omega
  have hcl := cle_le s.D now
  have hA1 : ChM bc (off1 s now) ((bc, .cells #[.int .i64 s.delay, .int .i64 s.rate, .int .i64 s.room, vS, .int .i64 (s.off + 1), .int .i64 now, vR] 55) :: (AS ++ AR)) := ⟨R, vS, vR, AS, AR, rfl, hS, hR, hrep⟩
  obtain ⟨ad, cap, rfl⟩ := hS.shape
  by_cases hof : s.off < s.fates.length
  · obtain ⟨bs, rest, cap, e, rfl, _, _, _⟩ := hS.pos (by omega)
    injection e with e e1 e2
    subst e e2
    refine Goal.enter (args := [.pointer (some ⟨bc, 0, none⟩), .int .i64 now]) Try.func13 rfl Try.ntmps13 rfl (hw) ?_
    repeat' (first
      | (refine Goal.drawAll (id := 8) 10 T.mixed ?_; all_goals ((refine Goal.takeP (listed' := #[true, false, false, false, false, false, false, false, false, false]) 0 ⟨rfl, by kernel_rfl, by kernel_rfl, by kernel_rfl, by kernel_rfl⟩ rfl (fun _ _ _ _ h => h) (by intro _; exact Run.move rfl) ?_)); all_goals ((refine Goal.takeP (listed' := #[true, true, false, false, false, false, false, false, false, false]) 1 ⟨rfl, by kernel_rfl, by kernel_rfl, by kernel_rfl, by kernel_rfl⟩ rfl (fun _ _ _ _ h => h) (by intro _; exact Run.nilCheckP rfl) ?_)); all_goals ((refine Goal.takeP (listed' := #[true, true, true, false, false, false, false, false, false, false]) 2 ⟨rfl, by kernel_rfl, by kernel_rfl, by kernel_rfl, by kernel_rfl⟩ rfl (fun _ _ _ _ h => h) (by intro _; exact Run.fieldAddr T.fld_55_4 rfl) ?_)); all_goals ((refine Goal.takeP (listed' := #[true, true, true, false, true, false, false, false, false, false]) 4 ⟨rfl, by kernel_rfl, by kernel_rfl, by kernel_rfl, by kernel_rfl⟩ rfl (fun _ _ _ _ h => h) (by intro _; exact Run.move rfl) ?_)); all_goals ((refine Goal.takeP (listed' := #[true, true, true, false, true, true, false, false, false, false]) 5 ⟨rfl, by kernel_rfl, by kernel_rfl, by kernel_rfl, by kernel_rfl⟩ rfl (fun _ _ _ _ h => h) (by intro _; exact Run.nilCheckP rfl) ?_)); all_goals ((refine Goal.takeP (listed' := #[true, true, true, false, true, true, true, false, false, false]) 6 ⟨rfl, by kernel_rfl, by kernel_rfl, by kernel_rfl, by kernel_rfl⟩ rfl (fun _ _ _ _ h => h) (by intro _; exact Run.fieldAddr T.fld_55_3 rfl) ?_)); all_goals ((refine Goal.take (listed' := #[true, true, true, true, true, true, true, false, false, false]) 3 ⟨rfl, by kernel_rfl, by kernel_rfl, by kernel_rfl, by kernel_rfl, by kernel_rfl⟩ rfl (by (first | exact fun _ h => h | exact fun _ h => h.sub (.cons _ (.refl _)) | exact fun _ h => h.sub (.cons _ (.cons _ (.refl _))) | exact fun _ h => h.sub (.cons _ (.cons _ (.cons _ (.refl _)))) | exact fun _ h => h.drop | exact fun _ h => h.sub (List.sublist_append_left _ _))) (fun _ _ _ _ h => h) (by (apply Run.load; exact rfl; first | exact LoadOK.elM T.agg_50 hf (l := s.fates) (rest := rest) (by repeat (first | exact List.mem_append_left _ (.head _) | apply List.mem_cons_of_mem)) (by omega) | exact LoadOK.one T.one_3 0 rfl rfl | exact LoadOK.one T.one_3 1 rfl rfl | exact LoadOK.one T.one_3 2 rfl rfl | exact LoadOK.one T.one_3 3 rfl rfl | exact LoadOK.one T.one_3 4 rfl rfl | exact LoadOK.one T.one_3 5 rfl rfl | exact LoadOK.one T.one_3 6 rfl rfl | exact LoadOK.one T.one_3 7 rfl rfl)) ?_)); all_goals ((refine Goal.take (listed' := #[true, true, true, true, true, true, true, true, false, false]) 7 ⟨rfl, by kernel_rfl, by kernel_rfl, by kernel_rfl, by kernel_rfl, by kernel_rfl⟩ rfl (by (first | exact fun _ h => h | exact fun _ h => h.sub (.cons _ (.refl _)) | exact fun _ h => h.sub (.cons _ (.cons _ (.refl _))) | exact fun _ h => h.sub (.cons _ (.cons _ (.cons _ (.refl _)))) | exact fun _ h => h.drop | exact fun _ h => h.sub (List.sublist_append_left _ _))) (fun _ _ _ _ h => h) (by (apply Run.load; exact rfl; first | exact LoadOK.elM T.agg_50 hf (l := s.fates) (rest := rest) (by repeat (first | exact List.mem_append_left _ (.head _) | apply List.mem_cons_of_mem)) (by omega) | exact LoadOK.one T.one_37 0 rfl rfl | exact LoadOK.one T.one_37 1 rfl rfl | exact LoadOK.one T.one_37 2 rfl rfl | exact LoadOK.one T.one_37 3 rfl rfl | exact LoadOK.one T.one_37 4 rfl rfl | exact LoadOK.one T.one_37 5 rfl rfl | exact LoadOK.one T.one_37 6 rfl rfl | exact LoadOK.one T.one_37 7 rfl rfl)) ?_)); all_goals ((refine Goal.takeP (listed' := #[true, true, true, true, true, true, true, true, true, false]) 8 ⟨rfl, by kernel_rfl, by kernel_rfl, by kernel_rfl, by kernel_rfl⟩ rfl (fun _ _ _ _ h => h) (by intro _; exact Run.len T.slc_37 rfl) ?_)); all_goals ((refine Goal.takeP (listed' := #[true, true, true, true, true, true, true, true, true, true]) 9 ⟨rfl, by kernel_rfl, by kernel_rfl, by kernel_rfl, by kernel_rfl⟩ rfl (fun _ _ _ _ h => h) (by intro _; first | exact Run.lss rfl rfl) ?_)); all_goals (refine Goal.allUp (by kernel_rfl) ?_))
      | (refine Goal.drawAll (id := 9) 10 T.mixed ?_; all_goals ((refine Goal.takeP (listed' := #[true, false, false, false, false, false, false, false, false, false, false]) 0 ⟨rfl, by kernel_rfl, by kernel_rfl, by kernel_rfl, by kernel_rfl⟩ rfl (fun _ _ _ _ h => h) (by intro _; exact Run.move rfl) ?_)); all_goals ((refine Goal.takeP (listed' := #[true, true, false, false, false, false, false, false, false, false, false]) 1 ⟨rfl, by kernel_rfl, by kernel_rfl, by kernel_rfl, by kernel_rfl⟩ rfl (fun _ _ _ _ h => h) (by intro _; exact Run.nilCheckP rfl) ?_)); all_goals ((refine Goal.takeP (listed' := #[true, true, true, false, false, false, false, false, false, false, false]) 2 ⟨rfl, by kernel_rfl, by kernel_rfl, by kernel_rfl, by kernel_rfl⟩ rfl (fun _ _ _ _ h => h) (by intro _; exact Run.fieldAddr T.fld_55_3 rfl) ?_)); all_goals ((refine Goal.takeP (listed' := #[true, true, true, false, true, false, false, false, false, false, false]) 4 ⟨rfl, by kernel_rfl, by kernel_rfl, by kernel_rfl, by kernel_rfl⟩ rfl (fun _ _ _ _ h => h) (by intro _; exact Run.move rfl) ?_)); all_goals ((refine Goal.takeP (listed' := #[true, true, true, false, true, true, false, false, false, false, false]) 5 ⟨rfl, by kernel_rfl, by kernel_rfl, by kernel_rfl, by kernel_rfl⟩ rfl (fun _ _ _ _ h => h) (by intro _; exact Run.nilCheckP rfl) ?_)); all_goals ((refine Goal.takeP (listed' := #[true, true, true, false, true, true, true, false, false, false, false]) 6 ⟨rfl, by kernel_rfl, by kernel_rfl, by kernel_rfl, by kernel_rfl⟩ rfl (fun _ _ _ _ h => h) (by intro _; exact Run.fieldAddr T.fld_55_4 rfl) ?_)); all_goals ((refine Goal.take (listed' := #[true, true, true, true, true, true, true, false, false, false, false]) 3 ⟨rfl, by kernel_rfl, by kernel_rfl, by kernel_rfl, by kernel_rfl, by kernel_rfl⟩ rfl (by (first | exact fun _ h => h | exact fun _ h => h.sub (.cons _ (.refl _)) | exact fun _ h => h.sub (.cons _ (.cons _ (.refl _))) | exact fun _ h => h.sub (.cons _ (.cons _ (.cons _ (.refl _)))) | exact fun _ h => h.drop | exact fun _ h => h.sub (List.sublist_append_left _ _))) (fun _ _ _ _ h => h) (by (apply Run.load; exact rfl; first | exact LoadOK.elM T.agg_50 hf (l := s.fates) (rest := rest) (by repeat (first | exact List.mem_append_left _ (.head _) | apply List.mem_cons_of_mem)) (by omega) | exact LoadOK.one T.one_37 0 rfl rfl | exact LoadOK.one T.one_37 1 rfl rfl | exact LoadOK.one T.one_37 2 rfl rfl | exact LoadOK.one T.one_37 3 rfl rfl | exact LoadOK.one T.one_37 4 rfl rfl | exact LoadOK.one T.one_37 5 rfl rfl | exact LoadOK.one T.one_37 6 rfl rfl | exact LoadOK.one T.one_37 7 rfl rfl)) ?_)); all_goals ((refine Goal.take (listed' := #[true, true, true, true, true, true, true, true, false, false, false]) 7 ⟨rfl, by kernel_rfl, by kernel_rfl, by kernel_rfl, by kernel_rfl, by kernel_rfl⟩ rfl (by (first | exact fun _ h => h | exact fun _ h => h.sub (.cons _ (.refl _)) | exact fun _ h => h.sub (.cons _ (.cons _ (.refl _))) | exact fun _ h => h.sub (.cons _ (.cons _ (.cons _ (.refl _)))) | exact fun _ h => h.drop | exact fun _ h => h.sub (List.sublist_append_left _ _))) (fun _ _ _ _ h => h) (by (apply Run.load; exact rfl; first | exact LoadOK.elM T.agg_50 hf (l := s.fates) (rest := rest) (by repeat (first | exact List.mem_append_left _ (.head _) | apply List.mem_cons_of_mem)) (by omega) | exact LoadOK.one T.one_3 0 rfl rfl | exact LoadOK.one T.one_3 1 rfl rfl | exact LoadOK.one T.one_3 2 rfl rfl | exact LoadOK.one T.one_3 3 rfl rfl | exact LoadOK.one T.one_3 4 rfl rfl | exact LoadOK.one T.one_3 5 rfl rfl | exact LoadOK.one T.one_3 6 rfl rfl | exact LoadOK.one T.one_3 7 rfl rfl)) ?_)); all_goals ((refine Goal.takeP (listed' := #[true, true, true, true, true, true, true, true, true, false, false]) 8 ⟨rfl, by kernel_rfl, by kernel_rfl, by kernel_rfl, by kernel_rfl⟩ rfl (fun _ _ _ _ h => h) (by intro _; first | exact Run.indexAddr T.slc_37 T.sz_50 rfl rfl rfl (by omega) | exact Run.indexAddr T.slc_37 T.sz_50 rfl rfl (Int.toNat_of_nonneg (by omega)).symm (by omega)) ?_)); all_goals ((refine Goal.take (listed' := #[true, true, true, true, true, true, true, true, true, true, false]) 9 ⟨rfl, by kernel_rfl, by kernel_rfl, by kernel_rfl, by kernel_rfl, by kernel_rfl⟩ rfl (by (first | exact fun _ h => h | exact fun _ h => h.sub (.cons _ (.refl _)) | exact fun _ h => h.sub (.cons _ (.cons _ (.refl _))) | exact fun _ h => h.sub (.cons _ (.cons _ (.cons _ (.refl _)))) | exact fun _ h => h.drop | exact fun _ h => h.sub (List.sublist_append_left _ _))) (fun _ _ _ _ h => h) (by (apply Run.load; exact rfl; first | exact LoadOK.elM T.agg_50 hf (l := s.fates) (rest := rest) (by repeat (first | exact List.mem_append_left _ (.head _) | apply List.mem_cons_of_mem)) (by omega) | exact LoadOK.agg (vs := [_, _]) T.agg_50 0 rfl rfl ⟨rfl, rfl, trivial⟩ | exact LoadOK.agg (vs := [_, _]) T.agg_50 1 rfl rfl ⟨rfl, rfl, trivial⟩ | exact LoadOK.agg (vs := [_, _]) T.agg_50 2 rfl rfl ⟨rfl, rfl, trivial⟩ | exact LoadOK.agg (vs := [_, _]) T.agg_50 3 rfl rfl ⟨rfl, rfl, trivial⟩ | exact LoadOK.agg (vs := [_, _]) T.agg_50 4 rfl rfl ⟨rfl, rfl, trivial⟩ | exact LoadOK.agg (vs := [_, _]) T.agg_50 5 rfl rfl ⟨rfl, rfl, trivial⟩ | exact LoadOK.agg (vs := [_, _]) T.agg_50 6 rfl rfl ⟨rfl, rfl, trivial⟩ | exact LoadOK.agg (vs := [_, _]) T.agg_50 7 rfl rfl ⟨rfl, rfl, trivial⟩)) ?_)); all_goals (refine Goal.ready1 (i := 10) (by kernel_rfl) ?_); all_goals ((refine Goal.up (i := 10) (listed' := #[true, true, true, true, true, true, true, true, true, true, true]) rfl (by kernel_rfl) ?_; (first | refine Loud.store0 rfl rfl T.sz_50 rfl rfl rfl (by first | exact Nat.le_of_ble_eq_true rfl | exact Nat.le_refl _ | decide | (simp; omega)) rfl ?_ | refine Loud.store1 rfl rfl T.sz_50 rfl rfl rfl (by first | exact Nat.le_of_ble_eq_true rfl | exact Nat.le_refl _ | decide | (simp; omega)) rfl ?_ | refine Loud.store2 rfl rfl T.sz_50 rfl rfl rfl (by first | exact Nat.le_of_ble_eq_true rfl | exact Nat.le_refl _ | decide | (simp; omega)) rfl ?_ | refine Loud.store3 rfl rfl T.sz_50 rfl rfl rfl (by first | exact Nat.le_of_ble_eq_true rfl | exact Nat.le_refl _ | decide | (simp; omega)) rfl ?_ | refine Loud.store4 rfl rfl T.sz_50 rfl rfl rfl (by first | exact Nat.le_of_ble_eq_true rfl | exact Nat.le_refl _ | decide | (simp; omega)) rfl ?_ | refine Loud.store5 rfl rfl T.sz_50 rfl rfl rfl (by first | exact Nat.le_of_ble_eq_true rfl | exact Nat.le_refl _ | decide | (simp; omega)) rfl ?_ | refine Loud.store6 rfl rfl T.sz_50 rfl rfl rfl (by first | exact Nat.le_of_ble_eq_true rfl | exact Nat.le_refl _ | decide | (simp; omega)) rfl ?_ | refine Loud.store7 rfl rfl T.sz_50 rfl rfl rfl (by first | exact Nat.le_of_ble_eq_true rfl | exact Nat.le_refl _ | decide | (simp; omega)) rfl ?_); first | refine Goal.tail rfl ?_ | refine Goal.kept (by (first | exact fun _ h => h | exact fun _ h => h.sub (.cons _ (.refl _)) | exact fun _ h => h.sub (.cons _ (.cons _ (.refl _))) | exact fun _ h => h.sub (.cons _ (.cons _ (.cons _ (.refl _)))) | exact fun _ h => h.drop | exact fun _ h => h.sub (List.sublist_append_left _ _))) ?_)); all_goals (refine Goal.allUp (by kernel_rfl) ?_))
      | (refine Goal.drawAll (id := 13) 13 T.mixed ?_; all_goals ((refine Goal.takeP (listed' := #[true, false, false, false, false, false, false, false, false, false, false, false, false]) 0 ⟨rfl, by kernel_rfl, by kernel_rfl, by kernel_rfl, by kernel_rfl⟩ rfl (fun _ _ _ _ h => h) (by intro _; exact Run.move rfl) ?_)); all_goals ((refine Goal.takeP (listed' := #[true, true, false, false, false, false, false, false, false, false, false, false, false]) 1 ⟨rfl, by kernel_rfl, by kernel_rfl, by kernel_rfl, by kernel_rfl⟩ rfl (fun _ _ _ _ h => h) (by intro _; exact Run.move rfl) ?_)); all_goals ((refine Goal.takeP (listed' := #[true, true, true, false, false, false, false, false, false, false, false, false, false]) 2 ⟨rfl, by kernel_rfl, by kernel_rfl, by kernel_rfl, by kernel_rfl⟩ rfl (fun _ _ _ _ h => h) (by intro _; first | exact Run.neq rfl rfl) ?_)); all_goals ((refine Goal.takeP (listed' := #[true, true, true, true, false, false, false, false, false, false, false, false, false]) 3 ⟨rfl, by kernel_rfl, by kernel_rfl, by kernel_rfl, by kernel_rfl⟩ rfl (fun _ _ _ _ h => h) (by intro _; exact Run.move rfl) ?_)); all_goals (first | (refine Goal.bdec 61 rfl (fun hc => ?_) (fun hc => ?_) <;> first | (exfalso; omega) | contradiction | skip) | skip); all_goals (first | (refine Goal.takePT (listed' := #[true, true, true, true, true, false, false, false, false, false, false, false, false]) 4 ⟨rfl, by kernel_rfl, by kernel_rfl, by kernel_rfl, by kernel_rfl⟩ rfl rfl rfl (fun _ _ _ _ h => h) (by intro _; exact Run.move rfl) ?_) | (refine Goal.takePF (listed' := #[true, true, true, true, true, false, false, false, false, false, false, false, false]) 4 ⟨rfl, by kernel_rfl, by kernel_rfl, by kernel_rfl, by kernel_rfl⟩ rfl rfl rfl rfl (fun _ _ _ _ h => h) ?_) | (refine Goal.takePU (listed' := #[true, true, true, true, true, false, false, false, false, false, false, false, false]) 4 ⟨rfl, by kernel_rfl, by kernel_rfl, by kernel_rfl, by kernel_rfl⟩ rfl rfl rfl (fun _ _ _ _ h => h) ?_)); all_goals (first | (refine Goal.takePT (listed' := #[true, true, true, true, true, true, false, false, false, false, false, false, false]) 5 ⟨rfl, by kernel_rfl, by kernel_rfl, by kernel_rfl, by kernel_rfl⟩ rfl rfl rfl (fun _ _ _ _ h => h) (by intro _; exact Run.move rfl) ?_) | (refine Goal.takePF (listed' := #[true, true, true, true, true, true, false, false, false, false, false, false, false]) 5 ⟨rfl, by kernel_rfl, by kernel_rfl, by kernel_rfl, by kernel_rfl⟩ rfl rfl rfl rfl (fun _ _ _ _ h => h) ?_) | (refine Goal.takePU (listed' := #[true, true, true, true, true, true, false, false, false, false, false, false, false]) 5 ⟨rfl, by kernel_rfl, by kernel_rfl, by kernel_rfl, by kernel_rfl⟩ rfl rfl rfl (fun _ _ _ _ h => h) ?_)); all_goals (first | (refine Goal.takePT (listed' := #[true, true, true, true, true, true, false, true, false, false, false, false, false]) 7 ⟨rfl, by kernel_rfl, by kernel_rfl, by kernel_rfl, by kernel_rfl⟩ rfl rfl rfl (fun _ _ _ _ h => h) (by intro _; exact Run.move rfl) ?_) | (refine Goal.takePF (listed' := #[true, true, true, true, true, true, false, true, false, false, false, false, false]) 7 ⟨rfl, by kernel_rfl, by kernel_rfl, by kernel_rfl, by kernel_rfl⟩ rfl rfl rfl rfl (fun _ _ _ _ h => h) ?_) | (refine Goal.takePU (listed' := #[true, true, true, true, true, true, false, true, false, false, false, false, false]) 7 ⟨rfl, by kernel_rfl, by kernel_rfl, by kernel_rfl, by kernel_rfl⟩ rfl rfl rfl (fun _ _ _ _ h => h) ?_)); all_goals (first | (refine Goal.takePT (listed' := #[true, true, true, true, true, true, false, true, true, false, false, false, false]) 8 ⟨rfl, by kernel_rfl, by kernel_rfl, by kernel_rfl, by kernel_rfl⟩ rfl rfl rfl (fun _ _ _ _ h => h) (by intro _; exact Run.nilCheckP rfl) ?_) | (refine Goal.takePF (listed' := #[true, true, true, true, true, true, false, true, true, false, false, false, false]) 8 ⟨rfl, by kernel_rfl, by kernel_rfl, by kernel_rfl, by kernel_rfl⟩ rfl rfl rfl rfl (fun _ _ _ _ h => h) ?_) | (refine Goal.takePU (listed' := #[true, true, true, true, true, true, false, true, true, false, false, false, false]) 8 ⟨rfl, by kernel_rfl, by kernel_rfl, by kernel_rfl, by kernel_rfl⟩ rfl rfl rfl (fun _ _ _ _ h => h) ?_)); all_goals (first | (refine Goal.takePT (listed' := #[true, true, true, true, true, true, false, true, true, true, false, false, false]) 9 ⟨rfl, by kernel_rfl, by kernel_rfl, by kernel_rfl, by kernel_rfl⟩ rfl rfl rfl (fun _ _ _ _ h => h) (by intro _; exact Run.fieldAddr T.fld_55_2 rfl) ?_) | (refine Goal.takePF (listed' := #[true, true, true, true, true, true, false, true, true, true, false, false, false]) 9 ⟨rfl, by kernel_rfl, by kernel_rfl, by kernel_rfl, by kernel_rfl⟩ rfl rfl rfl rfl (fun _ _ _ _ h => h) ?_) | (refine Goal.takePU (listed' := #[true, true, true, true, true, true, false, true, true, true, false, false, false]) 9 ⟨rfl, by kernel_rfl, by kernel_rfl, by kernel_rfl, by kernel_rfl⟩ rfl rfl rfl (fun _ _ _ _ h => h) ?_)); all_goals (first | (refine Goal.takeT (listed' := #[true, true, true, true, true, true, false, true, true, true, true, false, false]) 10 ⟨rfl, by kernel_rfl, by kernel_rfl, by kernel_rfl, by kernel_rfl, by kernel_rfl⟩ rfl rfl rfl (by (first | exact fun _ h => h | exact fun _ h => h.sub (.cons _ (.refl _)) | exact fun _ h => h.sub (.cons _ (.cons _ (.refl _))) | exact fun _ h => h.sub (.cons _ (.cons _ (.cons _ (.refl _)))) | exact fun _ h => h.drop | exact fun _ h => h.sub (List.sublist_append_left _ _))) (fun _ _ _ _ h => h) (by (apply Run.load; exact rfl; first | exact LoadOK.elM T.agg_50 hf (l := s.fates) (rest := rest) (by repeat (first | exact List.mem_append_left _ (.head _) | apply List.mem_cons_of_mem)) (by omega) | exact LoadOK.one T.one_3 0 rfl rfl | exact LoadOK.one T.one_3 1 rfl rfl | exact LoadOK.one T.one_3 2 rfl rfl | exact LoadOK.one T.one_3 3 rfl rfl | exact LoadOK.one T.one_3 4 rfl rfl | exact LoadOK.one T.one_3 5 rfl rfl | exact LoadOK.one T.one_3 6 rfl rfl | exact LoadOK.one T.one_3 7 rfl rfl)) ?_) | (refine Goal.takeF (listed' := #[true, true, true, true, true, true, false, true, true, true, true, false, false]) 10 ⟨rfl, by kernel_rfl, by kernel_rfl, by kernel_rfl, by kernel_rfl, by kernel_rfl⟩ rfl rfl rfl rfl (by (first | exact fun _ h => h | exact fun _ h => h.sub (.cons _ (.refl _)) | exact fun _ h => h.sub (.cons _ (.cons _ (.refl _))) | exact fun _ h => h.sub (.cons _ (.cons _ (.cons _ (.refl _)))) | exact fun _ h => h.drop | exact fun _ h => h.sub (List.sublist_append_left _ _))) (fun _ _ _ _ h => h) ?_) | (refine Goal.takePU (listed' := #[true, true, true, true, true, true, false, true, true, true, true, false, false]) 10 ⟨rfl, by kernel_rfl, by kernel_rfl, by kernel_rfl, by kernel_rfl⟩ rfl rfl rfl (fun _ _ _ _ h => h) ?_)); all_goals (refine Goal.ready1 (i := 6) (by kernel_rfl) ?_); all_goals ((first | (refine Goal.upT (i := 6) (listed' := #[true, true, true, true, true, true, true, true, true, true, true, false, false]) rfl (by kernel_rfl) rfl rfl ?_; (refine Loud.callE ([_]) (wait1 hA1 (by omega)) rfl rfl rfl rfl T.bod_16 (fun _ h => h) ?_; rintro ⟨⟩ -); first | refine Goal.tail rfl ?_ | refine Goal.kept (by (first | exact fun _ h => h | exact fun _ h => h.sub (.cons _ (.refl _)) | exact fun _ h => h.sub (.cons _ (.cons _ (.refl _))) | exact fun _ h => h.sub (.cons _ (.cons _ (.cons _ (.refl _)))) | exact fun _ h => h.drop | exact fun _ h => h.sub (List.sublist_append_left _ _))) ?_) | (refine Goal.upF (i := 6) (listed' := #[true, true, true, true, true, true, true, true, true, true, true, false, false]) rfl (by kernel_rfl) rfl rfl rfl rfl ?_; first | refine Goal.tail rfl ?_ | refine Goal.kept (by (first | exact fun _ h => h | exact fun _ h => h.sub (.cons _ (.refl _)) | exact fun _ h => h.sub (.cons _ (.cons _ (.refl _))) | exact fun _ h => h.sub (.cons _ (.cons _ (.cons _ (.refl _)))) | exact fun _ h => h.drop | exact fun _ h => h.sub (List.sublist_append_left _ _))) ?_))); all_goals (first | (refine Goal.takePT (listed' := #[true, true, true, true, true, true, true, true, true, true, true, true, false]) 11 ⟨rfl, by kernel_rfl, by kernel_rfl, by kernel_rfl, by kernel_rfl⟩ rfl rfl rfl (fun _ _ _ _ h => h) (by intro _; first | exact Run.geq rfl rfl) ?_) | (refine Goal.takePF (listed' := #[true, true, true, true, true, true, true, true, true, true, true, true, false]) 11 ⟨rfl, by kernel_rfl, by kernel_rfl, by kernel_rfl, by kernel_rfl⟩ rfl rfl rfl rfl (fun _ _ _ _ h => h) ?_) | (refine Goal.takePU (listed' := #[true, true, true, true, true, true, true, true, true, true, true, true, false]) 11 ⟨rfl, by kernel_rfl, by kernel_rfl, by kernel_rfl, by kernel_rfl⟩ rfl rfl rfl (fun _ _ _ _ h => h) ?_)); all_goals ((refine Goal.takeP (listed' := #[true, true, true, true, true, true, true, true, true, true, true, true, true]) 12 ⟨rfl, by kernel_rfl, by kernel_rfl, by kernel_rfl, by kernel_rfl⟩ rfl (fun _ _ _ _ h => h) (by intro _; first | exact Run.pickT rfl rfl | exact Run.pickF rfl rfl) ?_)); all_goals (refine Goal.allUp (by kernel_rfl) ?_))
      | (refine Goal.loud (o := ⟨some 57, _, _, _, _, _⟩) rfl ?_; refine Loud.callE ([_]) (dep1 hA1 (by omega) hb) rfl rfl rfl rfl T.bod_23 (fun _ h => h) ?_; rintro ⟨⟩ -)
      | (refine Goal.loud (o := ⟨some 64, _, _, _, _, _⟩) rfl ?_; refine Loud.callE ([_]) (wait1 hA1 (by omega)) rfl rfl rfl rfl T.bod_16 (fun _ h => h) ?_; rintro ⟨⟩ -)
      | (refine Goal.loud (o := ⟨some 6, _, _, _, _, _⟩) rfl ?_; refine Loud.allocA rfl T.inf_50 (fun b6 => ?_))
      | (refine Goal.loud (o := ⟨some 9, _, _, _, _, _⟩) rfl ?_; refine Loud.allocA rfl T.inf_59 (fun b9 => ?_))
      | (apply G.move; exact rfl; exact rfl)
      | (apply G.assign; exact rfl; exact rfl)
      | refine Goal.seq (fun _ _ => ?_)
      | refine Goal.next (by assumption) ?_
      | refine Goal.lnil ?_
      | refine Goal.region ?_
      | refine Goal.skip ?_
      | refine Goal.block ?_
      | refine Goal.exit ?_
      | refine Goal.ret ?_
      | refine Goal.then_exit ?_
      | refine Goal.then_ret ?_
      | refine Goal.inBlock_exit ?_
      | refine Goal.inBlock_normal ?_
      | refine Goal.inBlock_ret ?_
      | refine Goal.inBlock_other rfl ?_
      | (apply Goal.condT; exact rfl)
      | (apply Goal.condF; exact rfl)
      | (refine Goal.condD rfl (fun hc => ?_) (fun hc => ?_) <;> first | (exfalso; omega) | contradiction | skip)
      | refine Goal.condB rfl (fun hc => ?_) (fun hc => ?_)
      | refine Goal.guardT rfl rfl ?_
      | refine Goal.guardF rfl rfl rfl rfl ?_
      | refine Goal.guardU rfl rfl rfl ?_
      | (refine Goal.guardD rfl rfl (fun hc => ?_) (fun hc => ?_) <;> first | (exfalso; omega) | contradiction | skip)
      | refine Goal.guardB rfl rfl (fun hc => ?_) (fun hc => ?_)
      | (apply G.fieldAddr; exact rfl; exact rfl; (first | exact T.fld_50_0 | exact T.fld_50_1 | exact T.fld_55_0 | exact T.fld_55_2 | exact T.fld_55_3 | exact T.fld_55_4 | exact T.fld_55_5 | exact T.fld_55_6 | exact T.fld_57_0 | exact T.fld_57_1))
      | (apply G.load; exact rfl; exact rfl; first | exact LoadOK.elM T.agg_50 hf (l := s.fates) (rest := rest) (by repeat (first | exact List.mem_append_left _ (.head _) | apply List.mem_cons_of_mem)) (by omega) | exact LoadOK.one (by first | exact T.one_3 | exact T.one_37 | exact T.one_53 | exact T.one_58) 0 rfl rfl | exact LoadOK.one (by first | exact T.one_3 | exact T.one_37 | exact T.one_53 | exact T.one_58) 1 rfl rfl | exact LoadOK.one (by first | exact T.one_3 | exact T.one_37 | exact T.one_53 | exact T.one_58) 2 rfl rfl | exact LoadOK.one (by first | exact T.one_3 | exact T.one_37 | exact T.one_53 | exact T.one_58) 3 rfl rfl | exact LoadOK.one (by first | exact T.one_3 | exact T.one_37 | exact T.one_53 | exact T.one_58) 4 rfl rfl | exact LoadOK.one (by first | exact T.one_3 | exact T.one_37 | exact T.one_53 | exact T.one_58) 5 rfl rfl | exact LoadOK.one (by first | exact T.one_3 | exact T.one_37 | exact T.one_53 | exact T.one_58) 6 rfl rfl | exact LoadOK.one (by first | exact T.one_3 | exact T.one_37 | exact T.one_53 | exact T.one_58) 7 rfl rfl | exact LoadOK.agg (vs := [_, _]) T.agg_50 0 rfl rfl ⟨rfl, rfl, trivial⟩ | exact LoadOK.agg (vs := [_, _]) T.agg_50 1 rfl rfl ⟨rfl, rfl, trivial⟩ | exact LoadOK.agg (vs := [_, _]) T.agg_50 2 rfl rfl ⟨rfl, rfl, trivial⟩ | exact LoadOK.agg (vs := [_, _]) T.agg_50 3 rfl rfl ⟨rfl, rfl, trivial⟩ | exact LoadOK.agg (vs := [_, _]) T.agg_50 4 rfl rfl ⟨rfl, rfl, trivial⟩ | exact LoadOK.agg (vs := [_, _]) T.agg_50 5 rfl rfl ⟨rfl, rfl, trivial⟩ | exact LoadOK.agg (vs := [_, _]) T.agg_50 6 rfl rfl ⟨rfl, rfl, trivial⟩ | exact LoadOK.agg (vs := [_, _]) T.agg_50 7 rfl rfl ⟨rfl, rfl, trivial⟩)
      | (apply G.pickT; exact rfl; exact rfl; exact rfl)
      | (apply G.pickF; exact rfl; exact rfl; exact rfl)
      | (apply G.lss; exact rfl; exact rfl; exact rfl)
      | (apply G.gtr; exact rfl; exact rfl; exact rfl)
      | (apply G.geq; exact rfl; exact rfl; exact rfl)
      | (apply G.eql; exact rfl; exact rfl; exact rfl)
      | (apply G.neq; exact rfl; exact rfl; exact rfl)
      | (apply G.add; exact rfl; exact rfl; exact rfl; first | exact IntWalk.i64_in _ (by omega) | exact IntWalk.u8_in _ (by omega) | exact IntWalk.u16_in _ (by omega) | exact IntWalk.u32_in _ (by omega) | exact IntWalk.u64_in _ (by omega))
      | (apply G.sub; exact rfl; exact rfl; exact rfl; first | exact IntWalk.i64_in _ (by omega) | exact IntWalk.u8_in _ (by omega) | exact IntWalk.u16_in _ (by omega) | exact IntWalk.u32_in _ (by omega) | exact IntWalk.u64_in _ (by omega))
      | (refine Goal.quiet rfl (Run.eqlP T.ptr_29 rfl rfl rfl) ?_)
      | (refine Goal.quiet rfl (Run.neqP T.ptr_29 rfl rfl rfl) ?_)
      | (apply G.build (cs := [_, _]); exact rfl; exact T.lay_57; exact rfl; exact rfl)
      | (apply G.build (cs := [_, _, _, _]); exact rfl; exact T.lay_59; exact rfl; exact rfl)
      | (apply G.len; exact rfl; exact rfl; (first | exact T.slc_37 | exact T.slc_53))
      | (apply G.nilCheckP; exact rfl; exact rfl)
      | (refine G.indexAddr1 rfl (by first | exact T.slc_37 | exact T.slc_53) T.sz_58 rfl rfl _ rfl (by omega) ?_)
      | (refine G.indexAddr1 rfl (by first | exact T.slc_37 | exact T.slc_53) T.sz_58 rfl rfl _ (Int.toNat_of_nonneg (by omega)).symm (by omega) ?_)
      | (refine G.indexAddr rfl (by first | exact T.slc_37 | exact T.slc_53) (by first | exact T.sz_50 | exact T.sz_57) rfl rfl _ rfl (by omega) ?_)
      | (refine G.indexAddr rfl (by first | exact T.slc_37 | exact T.slc_53) (by first | exact T.sz_50 | exact T.sz_57) rfl rfl _ (Int.toNat_of_nonneg (by omega)).symm (by omega) ?_)
      | (refine G.indexAddrA rfl T.arr_59 (by first | exact T.sz_50 | exact T.sz_57 | exact T.sz_58) rfl rfl _ rfl (by omega) ?_)
      | (refine G.indexAddrA rfl T.arr_59 (by first | exact T.sz_50 | exact T.sz_57 | exact T.sz_58) rfl rfl _ (Int.toNat_of_nonneg (by omega)).symm (by omega) ?_)
      | (refine Goal.loud rfl ?_; refine Loud.store0 rfl rfl (by first | exact T.sz_3 | exact T.sz_50 | exact T.sz_53 | exact T.sz_59) rfl rfl rfl (by first | exact Nat.le_of_ble_eq_true rfl | exact Nat.le_refl _ | decide | (simp; omega)) rfl ?_)
      | (refine Goal.loud rfl ?_; refine Loud.store1 rfl rfl (by first | exact T.sz_3 | exact T.sz_50 | exact T.sz_53 | exact T.sz_59) rfl rfl rfl (by first | exact Nat.le_of_ble_eq_true rfl | exact Nat.le_refl _ | decide | (simp; omega)) rfl ?_)
      | (refine Goal.loud rfl ?_; refine Loud.store2 rfl rfl (by first | exact T.sz_3 | exact T.sz_50 | exact T.sz_53 | exact T.sz_59) rfl rfl rfl (by first | exact Nat.le_of_ble_eq_true rfl | exact Nat.le_refl _ | decide | (simp; omega)) rfl ?_)
      | (refine Goal.loud rfl ?_; refine Loud.store3 rfl rfl (by first | exact T.sz_3 | exact T.sz_50 | exact T.sz_53 | exact T.sz_59) rfl rfl rfl (by first | exact Nat.le_of_ble_eq_true rfl | exact Nat.le_refl _ | decide | (simp; omega)) rfl ?_)
      | (refine Goal.loud rfl ?_; refine Loud.store4 rfl rfl (by first | exact T.sz_3 | exact T.sz_50 | exact T.sz_53 | exact T.sz_59) rfl rfl rfl (by first | exact Nat.le_of_ble_eq_true rfl | exact Nat.le_refl _ | decide | (simp; omega)) rfl ?_)
      | (refine Goal.loud rfl ?_; refine Loud.store5 rfl rfl (by first | exact T.sz_3 | exact T.sz_50 | exact T.sz_53 | exact T.sz_59) rfl rfl rfl (by first | exact Nat.le_of_ble_eq_true rfl | exact Nat.le_refl _ | decide | (simp; omega)) rfl ?_)
      | (refine Goal.loud rfl ?_; refine Loud.store6 rfl rfl (by first | exact T.sz_3 | exact T.sz_50 | exact T.sz_53 | exact T.sz_59) rfl rfl rfl (by first | exact Nat.le_of_ble_eq_true rfl | exact Nat.le_refl _ | decide | (simp; omega)) rfl ?_)
      | (refine Goal.loud rfl ?_; refine Loud.store7 rfl rfl (by first | exact T.sz_3 | exact T.sz_50 | exact T.sz_53 | exact T.sz_59) rfl rfl rfl (by first | exact Nat.le_of_ble_eq_true rfl | exact Nat.le_refl _ | decide | (simp; omega)) rfl ?_))
    all_goals
      refine Goal.done (vs := [_, _]) (by first | exact .inl rfl | exact .inr rfl) Try.results13 ⟨rfl, rfl, trivial⟩ rfl (fun w' H => ⟨_, hA1, rfl, H.drop⟩)
  · refine Goal.enter (args := [.pointer (some ⟨bc, 0, none⟩), .int .i64 now]) Try.func13 rfl Try.ntmps13 rfl (hw) ?_
    repeat' (first
      | (refine Goal.drawAll (id := 8) 10 T.mixed ?_; all_goals ((refine Goal.takeP (listed' := #[true, false, false, false, false, false, false, false, false, false]) 0 ⟨rfl, by kernel_rfl, by kernel_rfl, by kernel_rfl, by kernel_rfl⟩ rfl (fun _ _ _ _ h => h) (by intro _; exact Run.move rfl) ?_)); all_goals ((refine Goal.takeP (listed' := #[true, true, false, false, false, false, false, false, false, false]) 1 ⟨rfl, by kernel_rfl, by kernel_rfl, by kernel_rfl, by kernel_rfl⟩ rfl (fun _ _ _ _ h => h) (by intro _; exact Run.nilCheckP rfl) ?_)); all_goals ((refine Goal.takeP (listed' := #[true, true, true, false, false, false, false, false, false, false]) 2 ⟨rfl, by kernel_rfl, by kernel_rfl, by kernel_rfl, by kernel_rfl⟩ rfl (fun _ _ _ _ h => h) (by intro _; exact Run.fieldAddr T.fld_55_4 rfl) ?_)); all_goals ((refine Goal.takeP (listed' := #[true, true, true, false, true, false, false, false, false, false]) 4 ⟨rfl, by kernel_rfl, by kernel_rfl, by kernel_rfl, by kernel_rfl⟩ rfl (fun _ _ _ _ h => h) (by intro _; exact Run.move rfl) ?_)); all_goals ((refine Goal.takeP (listed' := #[true, true, true, false, true, true, false, false, false, false]) 5 ⟨rfl, by kernel_rfl, by kernel_rfl, by kernel_rfl, by kernel_rfl⟩ rfl (fun _ _ _ _ h => h) (by intro _; exact Run.nilCheckP rfl) ?_)); all_goals ((refine Goal.takeP (listed' := #[true, true, true, false, true, true, true, false, false, false]) 6 ⟨rfl, by kernel_rfl, by kernel_rfl, by kernel_rfl, by kernel_rfl⟩ rfl (fun _ _ _ _ h => h) (by intro _; exact Run.fieldAddr T.fld_55_3 rfl) ?_)); all_goals ((refine Goal.take (listed' := #[true, true, true, true, true, true, true, false, false, false]) 3 ⟨rfl, by kernel_rfl, by kernel_rfl, by kernel_rfl, by kernel_rfl, by kernel_rfl⟩ rfl (by (first | exact fun _ h => h | exact fun _ h => h.sub (.cons _ (.refl _)) | exact fun _ h => h.sub (.cons _ (.cons _ (.refl _))) | exact fun _ h => h.sub (.cons _ (.cons _ (.cons _ (.refl _)))) | exact fun _ h => h.drop | exact fun _ h => h.sub (List.sublist_append_left _ _))) (fun _ _ _ _ h => h) (by (apply Run.load; exact rfl; first | exact LoadOK.one T.one_3 0 rfl rfl | exact LoadOK.one T.one_3 1 rfl rfl | exact LoadOK.one T.one_3 2 rfl rfl | exact LoadOK.one T.one_3 3 rfl rfl | exact LoadOK.one T.one_3 4 rfl rfl | exact LoadOK.one T.one_3 5 rfl rfl | exact LoadOK.one T.one_3 6 rfl rfl | exact LoadOK.one T.one_3 7 rfl rfl)) ?_)); all_goals ((refine Goal.take (listed' := #[true, true, true, true, true, true, true, true, false, false]) 7 ⟨rfl, by kernel_rfl, by kernel_rfl, by kernel_rfl, by kernel_rfl, by kernel_rfl⟩ rfl (by (first | exact fun _ h => h | exact fun _ h => h.sub (.cons _ (.refl _)) | exact fun _ h => h.sub (.cons _ (.cons _ (.refl _))) | exact fun _ h => h.sub (.cons _ (.cons _ (.cons _ (.refl _)))) | exact fun _ h => h.drop | exact fun _ h => h.sub (List.sublist_append_left _ _))) (fun _ _ _ _ h => h) (by (apply Run.load; exact rfl; first | exact LoadOK.one T.one_37 0 rfl rfl | exact LoadOK.one T.one_37 1 rfl rfl | exact LoadOK.one T.one_37 2 rfl rfl | exact LoadOK.one T.one_37 3 rfl rfl | exact LoadOK.one T.one_37 4 rfl rfl | exact LoadOK.one T.one_37 5 rfl rfl | exact LoadOK.one T.one_37 6 rfl rfl | exact LoadOK.one T.one_37 7 rfl rfl)) ?_)); all_goals ((refine Goal.takeP (listed' := #[true, true, true, true, true, true, true, true, true, false]) 8 ⟨rfl, by kernel_rfl, by kernel_rfl, by kernel_rfl, by kernel_rfl⟩ rfl (fun _ _ _ _ h => h) (by intro _; exact Run.len T.slc_37 rfl) ?_)); all_goals ((refine Goal.takeP (listed' := #[true, true, true, true, true, true, true, true, true, true]) 9 ⟨rfl, by kernel_rfl, by kernel_rfl, by kernel_rfl, by kernel_rfl⟩ rfl (fun _ _ _ _ h => h) (by intro _; first | exact Run.lss rfl rfl) ?_)); all_goals (refine Goal.allUp (by kernel_rfl) ?_))
      | (refine Goal.drawAll (id := 13) 13 T.mixed ?_; all_goals ((refine Goal.takeP (listed' := #[true, false, false, false, false, false, false, false, false, false, false, false, false]) 0 ⟨rfl, by kernel_rfl, by kernel_rfl, by kernel_rfl, by kernel_rfl⟩ rfl (fun _ _ _ _ h => h) (by intro _; exact Run.move rfl) ?_)); all_goals ((refine Goal.takeP (listed' := #[true, true, false, false, false, false, false, false, false, false, false, false, false]) 1 ⟨rfl, by kernel_rfl, by kernel_rfl, by kernel_rfl, by kernel_rfl⟩ rfl (fun _ _ _ _ h => h) (by intro _; exact Run.move rfl) ?_)); all_goals ((refine Goal.takeP (listed' := #[true, true, true, false, false, false, false, false, false, false, false, false, false]) 2 ⟨rfl, by kernel_rfl, by kernel_rfl, by kernel_rfl, by kernel_rfl⟩ rfl (fun _ _ _ _ h => h) (by intro _; first | exact Run.neq rfl rfl) ?_)); all_goals ((refine Goal.takeP (listed' := #[true, true, true, true, false, false, false, false, false, false, false, false, false]) 3 ⟨rfl, by kernel_rfl, by kernel_rfl, by kernel_rfl, by kernel_rfl⟩ rfl (fun _ _ _ _ h => h) (by intro _; exact Run.move rfl) ?_)); all_goals (first | (refine Goal.bdec 61 rfl (fun hc => ?_) (fun hc => ?_) <;> first | (exfalso; omega) | contradiction | skip) | skip); all_goals (first | (refine Goal.takePT (listed' := #[true, true, true, true, true, false, false, false, false, false, false, false, false]) 4 ⟨rfl, by kernel_rfl, by kernel_rfl, by kernel_rfl, by kernel_rfl⟩ rfl rfl rfl (fun _ _ _ _ h => h) (by intro _; exact Run.move rfl) ?_) | (refine Goal.takePF (listed' := #[true, true, true, true, true, false, false, false, false, false, false, false, false]) 4 ⟨rfl, by kernel_rfl, by kernel_rfl, by kernel_rfl, by kernel_rfl⟩ rfl rfl rfl rfl (fun _ _ _ _ h => h) ?_) | (refine Goal.takePU (listed' := #[true, true, true, true, true, false, false, false, false, false, false, false, false]) 4 ⟨rfl, by kernel_rfl, by kernel_rfl, by kernel_rfl, by kernel_rfl⟩ rfl rfl rfl (fun _ _ _ _ h => h) ?_)); all_goals (first | (refine Goal.takePT (listed' := #[true, true, true, true, true, true, false, false, false, false, false, false, false]) 5 ⟨rfl, by kernel_rfl, by kernel_rfl, by kernel_rfl, by kernel_rfl⟩ rfl rfl rfl (fun _ _ _ _ h => h) (by intro _; exact Run.move rfl) ?_) | (refine Goal.takePF (listed' := #[true, true, true, true, true, true, false, false, false, false, false, false, false]) 5 ⟨rfl, by kernel_rfl, by kernel_rfl, by kernel_rfl, by kernel_rfl⟩ rfl rfl rfl rfl (fun _ _ _ _ h => h) ?_) | (refine Goal.takePU (listed' := #[true, true, true, true, true, true, false, false, false, false, false, false, false]) 5 ⟨rfl, by kernel_rfl, by kernel_rfl, by kernel_rfl, by kernel_rfl⟩ rfl rfl rfl (fun _ _ _ _ h => h) ?_)); all_goals (first | (refine Goal.takePT (listed' := #[true, true, true, true, true, true, false, true, false, false, false, false, false]) 7 ⟨rfl, by kernel_rfl, by kernel_rfl, by kernel_rfl, by kernel_rfl⟩ rfl rfl rfl (fun _ _ _ _ h => h) (by intro _; exact Run.move rfl) ?_) | (refine Goal.takePF (listed' := #[true, true, true, true, true, true, false, true, false, false, false, false, false]) 7 ⟨rfl, by kernel_rfl, by kernel_rfl, by kernel_rfl, by kernel_rfl⟩ rfl rfl rfl rfl (fun _ _ _ _ h => h) ?_) | (refine Goal.takePU (listed' := #[true, true, true, true, true, true, false, true, false, false, false, false, false]) 7 ⟨rfl, by kernel_rfl, by kernel_rfl, by kernel_rfl, by kernel_rfl⟩ rfl rfl rfl (fun _ _ _ _ h => h) ?_)); all_goals (first | (refine Goal.takePT (listed' := #[true, true, true, true, true, true, false, true, true, false, false, false, false]) 8 ⟨rfl, by kernel_rfl, by kernel_rfl, by kernel_rfl, by kernel_rfl⟩ rfl rfl rfl (fun _ _ _ _ h => h) (by intro _; exact Run.nilCheckP rfl) ?_) | (refine Goal.takePF (listed' := #[true, true, true, true, true, true, false, true, true, false, false, false, false]) 8 ⟨rfl, by kernel_rfl, by kernel_rfl, by kernel_rfl, by kernel_rfl⟩ rfl rfl rfl rfl (fun _ _ _ _ h => h) ?_) | (refine Goal.takePU (listed' := #[true, true, true, true, true, true, false, true, true, false, false, false, false]) 8 ⟨rfl, by kernel_rfl, by kernel_rfl, by kernel_rfl, by kernel_rfl⟩ rfl rfl rfl (fun _ _ _ _ h => h) ?_)); all_goals (first | (refine Goal.takePT (listed' := #[true, true, true, true, true, true, false, true, true, true, false, false, false]) 9 ⟨rfl, by kernel_rfl, by kernel_rfl, by kernel_rfl, by kernel_rfl⟩ rfl rfl rfl (fun _ _ _ _ h => h) (by intro _; exact Run.fieldAddr T.fld_55_2 rfl) ?_) | (refine Goal.takePF (listed' := #[true, true, true, true, true, true, false, true, true, true, false, false, false]) 9 ⟨rfl, by kernel_rfl, by kernel_rfl, by kernel_rfl, by kernel_rfl⟩ rfl rfl rfl rfl (fun _ _ _ _ h => h) ?_) | (refine Goal.takePU (listed' := #[true, true, true, true, true, true, false, true, true, true, false, false, false]) 9 ⟨rfl, by kernel_rfl, by kernel_rfl, by kernel_rfl, by kernel_rfl⟩ rfl rfl rfl (fun _ _ _ _ h => h) ?_)); all_goals (first | (refine Goal.takeT (listed' := #[true, true, true, true, true, true, false, true, true, true, true, false, false]) 10 ⟨rfl, by kernel_rfl, by kernel_rfl, by kernel_rfl, by kernel_rfl, by kernel_rfl⟩ rfl rfl rfl (by (first | exact fun _ h => h | exact fun _ h => h.sub (.cons _ (.refl _)) | exact fun _ h => h.sub (.cons _ (.cons _ (.refl _))) | exact fun _ h => h.sub (.cons _ (.cons _ (.cons _ (.refl _)))) | exact fun _ h => h.drop | exact fun _ h => h.sub (List.sublist_append_left _ _))) (fun _ _ _ _ h => h) (by (apply Run.load; exact rfl; first | exact LoadOK.one T.one_3 0 rfl rfl | exact LoadOK.one T.one_3 1 rfl rfl | exact LoadOK.one T.one_3 2 rfl rfl | exact LoadOK.one T.one_3 3 rfl rfl | exact LoadOK.one T.one_3 4 rfl rfl | exact LoadOK.one T.one_3 5 rfl rfl | exact LoadOK.one T.one_3 6 rfl rfl | exact LoadOK.one T.one_3 7 rfl rfl)) ?_) | (refine Goal.takeF (listed' := #[true, true, true, true, true, true, false, true, true, true, true, false, false]) 10 ⟨rfl, by kernel_rfl, by kernel_rfl, by kernel_rfl, by kernel_rfl, by kernel_rfl⟩ rfl rfl rfl rfl (by (first | exact fun _ h => h | exact fun _ h => h.sub (.cons _ (.refl _)) | exact fun _ h => h.sub (.cons _ (.cons _ (.refl _))) | exact fun _ h => h.sub (.cons _ (.cons _ (.cons _ (.refl _)))) | exact fun _ h => h.drop | exact fun _ h => h.sub (List.sublist_append_left _ _))) (fun _ _ _ _ h => h) ?_) | (refine Goal.takePU (listed' := #[true, true, true, true, true, true, false, true, true, true, true, false, false]) 10 ⟨rfl, by kernel_rfl, by kernel_rfl, by kernel_rfl, by kernel_rfl⟩ rfl rfl rfl (fun _ _ _ _ h => h) ?_)); all_goals (refine Goal.ready1 (i := 6) (by kernel_rfl) ?_); all_goals ((first | (refine Goal.upT (i := 6) (listed' := #[true, true, true, true, true, true, true, true, true, true, true, false, false]) rfl (by kernel_rfl) rfl rfl ?_; (refine Loud.callE ([_]) (wait1 hA1 (by omega)) rfl rfl rfl rfl T.bod_16 (fun _ h => h) ?_; rintro ⟨⟩ -); first | refine Goal.tail rfl ?_ | refine Goal.kept (by (first | exact fun _ h => h | exact fun _ h => h.sub (.cons _ (.refl _)) | exact fun _ h => h.sub (.cons _ (.cons _ (.refl _))) | exact fun _ h => h.sub (.cons _ (.cons _ (.cons _ (.refl _)))) | exact fun _ h => h.drop | exact fun _ h => h.sub (List.sublist_append_left _ _))) ?_) | (refine Goal.upF (i := 6) (listed' := #[true, true, true, true, true, true, true, true, true, true, true, false, false]) rfl (by kernel_rfl) rfl rfl rfl rfl ?_; first | refine Goal.tail rfl ?_ | refine Goal.kept (by (first | exact fun _ h => h | exact fun _ h => h.sub (.cons _ (.refl _)) | exact fun _ h => h.sub (.cons _ (.cons _ (.refl _))) | exact fun _ h => h.sub (.cons _ (.cons _ (.cons _ (.refl _)))) | exact fun _ h => h.drop | exact fun _ h => h.sub (List.sublist_append_left _ _))) ?_))); all_goals (first | (refine Goal.takePT (listed' := #[true, true, true, true, true, true, true, true, true, true, true, true, false]) 11 ⟨rfl, by kernel_rfl, by kernel_rfl, by kernel_rfl, by kernel_rfl⟩ rfl rfl rfl (fun _ _ _ _ h => h) (by intro _; first | exact Run.geq rfl rfl) ?_) | (refine Goal.takePF (listed' := #[true, true, true, true, true, true, true, true, true, true, true, true, false]) 11 ⟨rfl, by kernel_rfl, by kernel_rfl, by kernel_rfl, by kernel_rfl⟩ rfl rfl rfl rfl (fun _ _ _ _ h => h) ?_) | (refine Goal.takePU (listed' := #[true, true, true, true, true, true, true, true, true, true, true, true, false]) 11 ⟨rfl, by kernel_rfl, by kernel_rfl, by kernel_rfl, by kernel_rfl⟩ rfl rfl rfl (fun _ _ _ _ h => h) ?_)); all_goals ((refine Goal.takeP (listed' := #[true, true, true, true, true, true, true, true, true, true, true, true, true]) 12 ⟨rfl, by kernel_rfl, by kernel_rfl, by kernel_rfl, by kernel_rfl⟩ rfl (fun _ _ _ _ h => h) (by intro _; first | exact Run.pickT rfl rfl | exact Run.pickF rfl rfl) ?_)); all_goals (refine Goal.allUp (by kernel_rfl) ?_))
      | (refine Goal.loud (o := ⟨some 57, _, _, _, _, _⟩) rfl ?_; refine Loud.callE ([_]) (dep1 hA1 (by omega) hb) rfl rfl rfl rfl T.bod_23 (fun _ h => h) ?_; rintro ⟨⟩ -)
      | (refine Goal.loud (o := ⟨some 64, _, _, _, _, _⟩) rfl ?_; refine Loud.callE ([_]) (wait1 hA1 (by omega)) rfl rfl rfl rfl T.bod_16 (fun _ h => h) ?_; rintro ⟨⟩ -)
      | (refine Goal.loud (o := ⟨some 6, _, _, _, _, _⟩) rfl ?_; refine Loud.allocA rfl T.inf_50 (fun b6 => ?_))
      | (refine Goal.loud (o := ⟨some 9, _, _, _, _, _⟩) rfl ?_; refine Loud.allocA rfl T.inf_59 (fun b9 => ?_))
      | (apply G.move; exact rfl; exact rfl)
      | (apply G.assign; exact rfl; exact rfl)
      | refine Goal.seq (fun _ _ => ?_)
      | refine Goal.next (by assumption) ?_
      | refine Goal.lnil ?_
      | refine Goal.region ?_
      | refine Goal.skip ?_
      | refine Goal.block ?_
      | refine Goal.exit ?_
      | refine Goal.ret ?_
      | refine Goal.then_exit ?_
      | refine Goal.then_ret ?_
      | refine Goal.inBlock_exit ?_
      | refine Goal.inBlock_normal ?_
      | refine Goal.inBlock_ret ?_
      | refine Goal.inBlock_other rfl ?_
      | (apply Goal.condT; exact rfl)
      | (apply Goal.condF; exact rfl)
      | (refine Goal.condD rfl (fun hc => ?_) (fun hc => ?_) <;> first | (exfalso; omega) | contradiction | skip)
      | refine Goal.condB rfl (fun hc => ?_) (fun hc => ?_)
      | refine Goal.guardT rfl rfl ?_
      | refine Goal.guardF rfl rfl rfl rfl ?_
      | refine Goal.guardU rfl rfl rfl ?_
      | (refine Goal.guardD rfl rfl (fun hc => ?_) (fun hc => ?_) <;> first | (exfalso; omega) | contradiction | skip)
      | refine Goal.guardB rfl rfl (fun hc => ?_) (fun hc => ?_)
      | (apply G.fieldAddr; exact rfl; exact rfl; (first | exact T.fld_50_0 | exact T.fld_50_1 | exact T.fld_55_0 | exact T.fld_55_2 | exact T.fld_55_3 | exact T.fld_55_4 | exact T.fld_55_5 | exact T.fld_55_6 | exact T.fld_57_0 | exact T.fld_57_1))
      | (apply G.load; exact rfl; exact rfl; first | exact LoadOK.one (by first | exact T.one_3 | exact T.one_37 | exact T.one_53 | exact T.one_58) 0 rfl rfl | exact LoadOK.one (by first | exact T.one_3 | exact T.one_37 | exact T.one_53 | exact T.one_58) 1 rfl rfl | exact LoadOK.one (by first | exact T.one_3 | exact T.one_37 | exact T.one_53 | exact T.one_58) 2 rfl rfl | exact LoadOK.one (by first | exact T.one_3 | exact T.one_37 | exact T.one_53 | exact T.one_58) 3 rfl rfl | exact LoadOK.one (by first | exact T.one_3 | exact T.one_37 | exact T.one_53 | exact T.one_58) 4 rfl rfl | exact LoadOK.one (by first | exact T.one_3 | exact T.one_37 | exact T.one_53 | exact T.one_58) 5 rfl rfl | exact LoadOK.one (by first | exact T.one_3 | exact T.one_37 | exact T.one_53 | exact T.one_58) 6 rfl rfl | exact LoadOK.one (by first | exact T.one_3 | exact T.one_37 | exact T.one_53 | exact T.one_58) 7 rfl rfl | exact LoadOK.agg (vs := [_, _]) T.agg_50 0 rfl rfl ⟨rfl, rfl, trivial⟩ | exact LoadOK.agg (vs := [_, _]) T.agg_50 1 rfl rfl ⟨rfl, rfl, trivial⟩ | exact LoadOK.agg (vs := [_, _]) T.agg_50 2 rfl rfl ⟨rfl, rfl, trivial⟩ | exact LoadOK.agg (vs := [_, _]) T.agg_50 3 rfl rfl ⟨rfl, rfl, trivial⟩ | exact LoadOK.agg (vs := [_, _]) T.agg_50 4 rfl rfl ⟨rfl, rfl, trivial⟩ | exact LoadOK.agg (vs := [_, _]) T.agg_50 5 rfl rfl ⟨rfl, rfl, trivial⟩ | exact LoadOK.agg (vs := [_, _]) T.agg_50 6 rfl rfl ⟨rfl, rfl, trivial⟩ | exact LoadOK.agg (vs := [_, _]) T.agg_50 7 rfl rfl ⟨rfl, rfl, trivial⟩)
      | (apply G.pickT; exact rfl; exact rfl; exact rfl)
      | (apply G.pickF; exact rfl; exact rfl; exact rfl)
      | (apply G.lss; exact rfl; exact rfl; exact rfl)
      | (apply G.gtr; exact rfl; exact rfl; exact rfl)
      | (apply G.geq; exact rfl; exact rfl; exact rfl)
      | (apply G.eql; exact rfl; exact rfl; exact rfl)
      | (apply G.neq; exact rfl; exact rfl; exact rfl)
      | (apply G.add; exact rfl; exact rfl; exact rfl; first | exact IntWalk.i64_in _ (by omega) | exact IntWalk.u8_in _ (by omega) | exact IntWalk.u16_in _ (by omega) | exact IntWalk.u32_in _ (by omega) | exact IntWalk.u64_in _ (by omega))
      | (apply G.sub; exact rfl; exact rfl; exact rfl; first | exact IntWalk.i64_in _ (by omega) | exact IntWalk.u8_in _ (by omega) | exact IntWalk.u16_in _ (by omega) | exact IntWalk.u32_in _ (by omega) | exact IntWalk.u64_in _ (by omega))
      | (refine Goal.quiet rfl (Run.eqlP T.ptr_29 rfl rfl rfl) ?_)
      | (refine Goal.quiet rfl (Run.neqP T.ptr_29 rfl rfl rfl) ?_)
      | (apply G.build (cs := [_, _]); exact rfl; exact T.lay_57; exact rfl; exact rfl)
      | (apply G.build (cs := [_, _, _, _]); exact rfl; exact T.lay_59; exact rfl; exact rfl)
      | (apply G.len; exact rfl; exact rfl; (first | exact T.slc_37 | exact T.slc_53))
      | (apply G.nilCheckP; exact rfl; exact rfl)
      | (refine G.indexAddr1 rfl (by first | exact T.slc_37 | exact T.slc_53) T.sz_58 rfl rfl _ rfl (by omega) ?_)
      | (refine G.indexAddr1 rfl (by first | exact T.slc_37 | exact T.slc_53) T.sz_58 rfl rfl _ (Int.toNat_of_nonneg (by omega)).symm (by omega) ?_)
      | (refine G.indexAddr rfl (by first | exact T.slc_37 | exact T.slc_53) (by first | exact T.sz_50 | exact T.sz_57) rfl rfl _ rfl (by omega) ?_)
      | (refine G.indexAddr rfl (by first | exact T.slc_37 | exact T.slc_53) (by first | exact T.sz_50 | exact T.sz_57) rfl rfl _ (Int.toNat_of_nonneg (by omega)).symm (by omega) ?_)
      | (refine G.indexAddrA rfl T.arr_59 (by first | exact T.sz_50 | exact T.sz_57 | exact T.sz_58) rfl rfl _ rfl (by omega) ?_)
      | (refine G.indexAddrA rfl T.arr_59 (by first | exact T.sz_50 | exact T.sz_57 | exact T.sz_58) rfl rfl _ (Int.toNat_of_nonneg (by omega)).symm (by omega) ?_)
      | (refine Goal.loud rfl ?_; refine Loud.store0 rfl rfl (by first | exact T.sz_3 | exact T.sz_50 | exact T.sz_53 | exact T.sz_59) rfl rfl rfl (by first | exact Nat.le_of_ble_eq_true rfl | exact Nat.le_refl _ | decide | (simp; omega)) rfl ?_)
      | (refine Goal.loud rfl ?_; refine Loud.store1 rfl rfl (by first | exact T.sz_3 | exact T.sz_50 | exact T.sz_53 | exact T.sz_59) rfl rfl rfl (by first | exact Nat.le_of_ble_eq_true rfl | exact Nat.le_refl _ | decide | (simp; omega)) rfl ?_)
      | (refine Goal.loud rfl ?_; refine Loud.store2 rfl rfl (by first | exact T.sz_3 | exact T.sz_50 | exact T.sz_53 | exact T.sz_59) rfl rfl rfl (by first | exact Nat.le_of_ble_eq_true rfl | exact Nat.le_refl _ | decide | (simp; omega)) rfl ?_)
      | (refine Goal.loud rfl ?_; refine Loud.store3 rfl rfl (by first | exact T.sz_3 | exact T.sz_50 | exact T.sz_53 | exact T.sz_59) rfl rfl rfl (by first | exact Nat.le_of_ble_eq_true rfl | exact Nat.le_refl _ | decide | (simp; omega)) rfl ?_)
      | (refine Goal.loud rfl ?_; refine Loud.store4 rfl rfl (by first | exact T.sz_3 | exact T.sz_50 | exact T.sz_53 | exact T.sz_59) rfl rfl rfl (by first | exact Nat.le_of_ble_eq_true rfl | exact Nat.le_refl _ | decide | (simp; omega)) rfl ?_)
      | (refine Goal.loud rfl ?_; refine Loud.store5 rfl rfl (by first | exact T.sz_3 | exact T.sz_50 | exact T.sz_53 | exact T.sz_59) rfl rfl rfl (by first | exact Nat.le_of_ble_eq_true rfl | exact Nat.le_refl _ | decide | (simp; omega)) rfl ?_)
      | (refine Goal.loud rfl ?_; refine Loud.store6 rfl rfl (by first | exact T.sz_3 | exact T.sz_50 | exact T.sz_53 | exact T.sz_59) rfl rfl rfl (by first | exact Nat.le_of_ble_eq_true rfl | exact Nat.le_refl _ | decide | (simp; omega)) rfl ?_)
      | (refine Goal.loud rfl ?_; refine Loud.store7 rfl rfl (by first | exact T.sz_3 | exact T.sz_50 | exact T.sz_53 | exact T.sz_59) rfl rfl rfl (by first | exact Nat.le_of_ble_eq_true rfl | exact Nat.le_refl _ | decide | (simp; omega)) rfl ?_))
    all_goals
      refine Goal.done (vs := [_, _]) (by first | exact .inl rfl | exact .inr rfl) Try.results13 ⟨rfl, rfl, trivial⟩ rfl (fun w' H => ⟨_, hA1, rfl, H.drop⟩)
end
end Go.Proofs.Ytgidkddkoopdfaa
