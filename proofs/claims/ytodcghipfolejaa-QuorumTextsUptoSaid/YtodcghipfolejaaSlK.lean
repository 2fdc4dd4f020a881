/- The rules of the walk: slices against nil; the end of a slice of the call's own. -/
import Derived.Test.YtodcghipfolejaaSl
namespace Go.Sl
open Go Go.RowKit
set_option linter.unusedVariables false
set_option linter.unusedSimpArgs false

section
variable {P : Program} {N : Nat} {K R : Kont} {E : List (Nat × Kont)} {L : Lcs} {F : Snap} {H : List As} {ops : Array Oper} {rest : List Oper} {ty : TypeId} {pos : String} {af : Array Edge} {dst : Option Nat} {gd : Option (Nat × Bool)}
variable {x y : Operand} {t t' : TypeId}
theorem eqGuard_at_sl (op : BinOp) (a b : Option Addr) (n c m d : Nat) : eqGuard op t x y (.slice a n c) (.slice b m d) = pure () := by cases op <;> rfl
theorem run_equalIn_slnil {e : TypeId} (hu : P.underlying t = some (.slice e)) (w : World) (a : Option Addr) (n c : Nat) (d : Nat) : (Op.equalIn (d + 1) t (.slice a n c) (.slice none 0 0)).run P w = .ok a.isNone w := by
  cases a <;> simp [Op.equalIn, run_underlying hu]
theorem s_eql_slnil {a : Option Addr} {n c : Nat} {e : TypeId} [hu : HU P t (.slice e)] (hx : ev L x = some (.slice a n c)) (hy : ev L y = some (.slice none 0 0)) : OpF P ⟨dst, .binOp .eql t x y t', ty, pos, af, gd⟩ L (.bool a.isNone) :=
  s_bin hx hy (fun w => by
    rw [eqGuard_at_sl]
    simp only [binOp]
    simp [Op.equal, Op.maxDepth, run_equalIn_slnil hu.h w a n c 9999])
theorem s_neq_slnil {a : Option Addr} {n c : Nat} {e : TypeId} [hu : HU P t (.slice e)] (hx : ev L x = some (.slice a n c)) (hy : ev L y = some (.slice none 0 0)) : OpF P ⟨dst, .binOp .neq t x y t', ty, pos, af, gd⟩ L (.bool (!a.isNone)) :=
  s_bin hx hy (fun w => by
    rw [eqGuard_at_sl]
    simp only [binOp]
    simp [Op.equal, Op.maxDepth, run_equalIn_slnil hu.h w a n c 9999])
end
/-- x[lo:] of a slice of the call's own, something being left of its room -/
theorem Hp.dropOwn {F : Snap} {w : World} {H H' : List As} {a : Option Addr} {n c sz lo : Nat} {te : TypeId} {xs : List Value} (hw : Hp F w H) (u : Upd H (.own (.slice a n c) te sz xs) [.own (.slice (cutA a c lo sz) (n - lo) (c - lo)) te sz (xs.drop (lo * sz))] H') (hj : lo ≤ n) (hc : lo < c) : Hp F w H' := by
  obtain ⟨b2, hsat, hnd, hlt, kk⟩ := hw.focus u
  refine kk w b2 rfl rfl rfl (fun _ _ _ => rfl) ⟨b2, [], by simp, ?_, rfl⟩ hnd (fun _ hb => .inl hb)
  rcases hsat with ⟨hv, rfl, rfl⟩ | ⟨g, rfl, ⟨o, n', cap, pre, post, fr, hv, hg, ho, hl, hl2, hle, hfr⟩⟩
  · injection hv with e1 e2 e3; subst e1 e2 e3
    omega
  · injection hv with e1 e2 e3; subst e1 e2 e3
    have hjl : lo * sz ≤ xs.length := by rw [hl]; exact Nat.mul_le_mul_right _ hj
    have ec : cutA (some ⟨g, o, none⟩) c lo sz = some ⟨g, o + lo * sz, none⟩ := by
      rw [cutA, if_neg (by omega)]
      simp [Addr.add]
    refine .inr ⟨g, rfl, ⟨o + lo * sz, n - lo, c - lo, pre ++ xs.take (lo * sz), post, fr, by rw [ec], ?_, ?_, ?_, ?_, by omega, ?_⟩⟩
    · rw [hg]
      have e : pre ++ xs ++ post = pre ++ xs.take (lo * sz) ++ xs.drop (lo * sz) ++ post := by
        rw [List.append_assoc pre (xs.take _), List.take_append_drop]
      rw [e]
    · rw [List.length_append, List.length_take]; omega
    · rw [List.length_drop, hl, Nat.sub_mul]
    · rw [List.length_append] at hl2 ⊢
      rw [List.length_drop, Nat.sub_mul]; omega
    · have e : (pre ++ xs.take (lo * sz) ++ xs.drop (lo * sz) ++ post).length = (pre ++ xs ++ post).length := by
        rw [List.append_assoc pre (xs.take _), List.take_append_drop]
      rw [e]; exact hfr
section
variable {P : Program} {N : Nat} {K R : Kont} {E : List (Nat × Kont)} {L : Lcs} {F : Snap} {H : List As} {ops : Array Oper} {rest : List Oper} {ty : TypeId} {pos : String} {af : Array Edge} {dst : Option Nat} {gd : Option (Nat × Bool)}
variable {x y : Operand} {t t' : TypeId}
/-- a call of a function's value: what it holds stands in front of, and behind, what is handed in -/
theorem gl_callv {d : Nat} {f : FuncId} {args : List Operand} {tys : Array TypeId} {vs ps qs all : List Value} {Pre : Heap → Prop} {C : List As} {Post : Value → List As → Prop} [hF : HF P f] (Rr : List As) (hv : ev L x = some (.func (.func f) ps.toArray qs.toArray)) (hx : evs L args = some vs)
    (hall : ps ++ vs ++ qs = all) (hc : Ct P f all Pre C Post) (hH : ∀ w, Hp F w H → Hp F w (C ++ Rr)) (hpre : ∀ h, Heap.le F.heap h → (∃ bs, Sat h Rr bs) → Pre h) (hd : Nat.blt d N = true)
    (h : ∀ v A, Post v A → GL P N ops rest K E R ((d, v) :: L) F (A ++ Rr)) : GL P N ops (⟨some d, .call ⟨.value x, args.toArray, tys⟩, ty, pos, af, none⟩ :: rest) K E R L F H :=
  gl_enter rfl rfl hd (fun ρ w hf => by
    have e1 := hf _ _ hv
    have e2 := evs_eval hf hx
    subst hall
    simp only [execOp, resolve, e1, Deferred.ofValue, List.map_toArray, e2, Sem.run_bind, Sem.run_pure, Result.andThen_ok, invoke]
    have : (ps.toArray ++ vs.toArray ++ qs.toArray : Array Value) = (ps ++ vs ++ qs).toArray := by simp
    rw [this]
    exact hF.h _ w) hc hH hpre h
end
end Go.Sl
