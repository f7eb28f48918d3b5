/- The queue of events: the first slot; a new slot; a slot given up. -/
import Derived.Test.YtcekjnfdgbeekaaEvA
namespace Go.Proofs.Ytcekjnfdgbeekaa
open Go.Wf
set_option linter.unusedVariables false
structure EX where
  (i k : Int) (ok : Bool) (A : List Blk)
section
variable {bq : Nat} {q : Rep} {A : List Blk}
theorem upd_back {m : Int → Option Int} {i k : Int} (h : m i = some k) : upd (upd m i none) i (some k) = m := by
  funext j
  unfold upd
  by_cases e : j = i
  · rw [if_pos e, e, h]
  · rw [if_neg e, if_neg e]
set_option maxHeartbeats 2000000 in
theorem first_ok (hA : EvM bq q A) : MCalls Try.prog 23 [.pointer (some ⟨bq, 0, none⟩)] A (fun x : EX => popS 65536 q.m x.i x.k x.ok ∧ EvM bq q x.A) (fun x => .tuple #[.int .i64 x.i, .int .i64 x.k, .bool x.ok]) (fun x => x.A) := .mk fun w hw => by
  obtain ⟨bt, bi, ct, ci, bh, bk, bp, mt, mi, vL, vU, vs, AO, AU, AI, AH, rfl, hL, hU, hI, hH, hT, hD⟩ := hA
  refine Goal.enter (args := [.pointer (some ⟨bq, 0, none⟩)]) Try.func23 rfl Try.ntmps23 rfl (hw) ?_
  repeat' (first
    | (refine Goal.loud (o := ⟨some 10, _, _, _, _, _⟩) rfl ?_; refine Loud.callM (_ :: _ :: _ :: (AO ++ (AU ++ AI))) (G := []) (pop_ok hH (by omega)) rfl rfl rfl rfl T.bod_30 (fun _ h => by first | exact h | simpa only [List.append_eq, List.append_assoc, List.cons_append, List.nil_append, List.append_nil] using h) ?_; rintro ⟨i, k, ok, A2⟩ ⟨hp, h2⟩; dsimp only at hp h2 ⊢)
    | (refine Goal.loud (o := ⟨some 21, _, _, _, _, _⟩) rfl ?_; refine Loud.callM (_ :: _ :: _ :: (AO ++ (AU ++ AI))) (G := []) (set_ok h2 (by omega) i k) rfl rfl rfl rfl T.bod_29 (fun _ h => by first | exact h | simpa only [List.append_eq, List.append_assoc, List.cons_append, List.nil_append, List.append_nil] using h) ?_; intro A3 h3)
    | (apply G.move; exact rfl; exact rfl)
    | (apply G.assign; exact rfl; exact rfl)
    | refine Goal.seq (fun _ _ => ?_)
    | refine Goal.next (by assumption) ?_
    | refine Goal.lnil ?_
    | refine Goal.region ?_
    | refine Goal.skip ?_
    | refine Goal.block ?_
    | refine Goal.exit ?_
    | refine Goal.ret ?_
    | refine Goal.then_exit ?_
    | refine Goal.then_ret ?_
    | refine Goal.inBlock_exit ?_
    | refine Goal.inBlock_normal ?_
    | refine Goal.inBlock_ret ?_
    | refine Goal.inBlock_other rfl ?_
    | (apply Goal.condT; exact rfl)
    | (apply Goal.condF; exact rfl)
    | (refine Goal.condD rfl (fun hc => ?_) (fun hc => ?_) <;> first | (exfalso; omega) | contradiction | skip)
    | refine Goal.condB rfl (fun hc => ?_) (fun hc => ?_)
    | (apply G.fieldAddr; exact rfl; exact rfl; exact T.fld_56_2)
    | (apply G.load; exact rfl; exact rfl; first | exact LoadOK.one T.one_52 0 rfl rfl | exact LoadOK.one T.one_52 1 rfl rfl | exact LoadOK.one T.one_52 2 rfl rfl | exact LoadOK.one T.one_52 3 rfl rfl | exact LoadOK.one T.one_52 4 rfl rfl | exact LoadOK.one T.one_52 5 rfl rfl | exact LoadOK.one T.one_52 6 rfl rfl | exact LoadOK.one T.one_52 7 rfl rfl)
    | (apply G.extract; exact rfl; exact rfl; exact rfl)
    | (apply G.nilCheckP; exact rfl; exact rfl))
  · rcases hp with ⟨h0, _⟩ | ⟨rfl, i0, i1, hm, hmin⟩
    · rw [h0] at hc; cases hc
    · rw [if_pos rfl, if_pos ⟨i0, i1⟩, upd_back hm] at h3
      refine Goal.done (vs := [_, _, _]) (by first | exact .inl rfl | exact .inr rfl) Try.results23 ⟨rfl, rfl, rfl, trivial⟩ rfl (fun w' H => ⟨⟨i, k, true, _⟩, ⟨.inr ⟨rfl, i0, i1, hm, hmin⟩, ⟨bt, bi, ct, ci, bh, bk, bp, mt, mi, vL, vU, vs, AO, AU, AI, A3, rfl, hL, hU, hI, h3, hT, hD⟩⟩, rfl, by simpa only [List.append_eq, List.append_assoc, List.cons_append, List.nil_append, List.append_nil] using H⟩)
  · rcases hp with ⟨rfl, rfl, rfl, hno⟩ | ⟨h0, _⟩
    · rw [if_neg (by decide)] at h2
      refine Goal.done (vs := [_, _, _]) (by first | exact .inl rfl | exact .inr rfl) Try.results23 ⟨rfl, rfl, rfl, trivial⟩ rfl (fun w' H => ⟨⟨0, 0, false, _⟩, ⟨.inl ⟨rfl, rfl, rfl, hno⟩, ⟨bt, bi, ct, ci, bh, bk, bp, mt, mi, vL, vU, vs, AO, AU, AI, A2, rfl, hL, hU, hI, h2, hT, hD⟩⟩, rfl, by simpa only [List.append_eq, List.append_assoc, List.cons_append, List.nil_append, List.append_nil] using H⟩)
    · rw [h0] at hc; cases hc
end
end Go.Proofs.Ytcekjnfdgbeekaa
