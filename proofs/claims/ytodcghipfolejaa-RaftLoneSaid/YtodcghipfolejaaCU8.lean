/- The iterator over a log's entries towards its beginning: its contract. -/
import Derived.Test.YtodcghipfolejaaCU7
namespace Go.Proofs.Ytodcghipfolejaa
open Go Go.Sl Go.RowKit
set_option linter.unusedVariables false
set_option linter.unusedSimpArgs false

abbrev Yl := Int × Ent
def encY (x : Yl) : Array Value := #[.int .u64 x.1, entV x.2]
def backN (g : LM) (i : Int) : Nat := min g.l.length (i - g.base).toNat
/-- what stands at the j-th round -/
def backAt (g : LM) (m j : Nat) : Yl := (g.base + ((m - j : Nat) : Int), g.l.getD (m - j - 1) E0)
def Dt (x : Yl) : Prop := x.2.2.2.length ≤ 9223372036854775807
abbrev Yd := {x : Yl // Dt x}
def encD (x : Yd) : Array Value := encY x.1
def LM.dat (g : LM) : Prop := ∀ i, i < g.l.length → (g.l.getD i E0).2.2.length ≤ 9223372036854775807
theorem backAt_dt {g : LM} (hd : g.dat) (m j : Nat) : Dt (backAt g m j) := by
  unfold Dt backAt
  simp only
  rcases Nat.lt_or_ge (m - j - 1) g.l.length with h | h
  · exact hd _ h
  · rw [List.getD_eq_getElem?_getD, List.getElem?_eq_none h]; decide
def backE (g : LM) (hd : g.dat) (m j : Nat) : Yd := ⟨backAt g m j, backAt_dt hd m j⟩
def backL (g : LM) (hd : g.dat) (m k : Nat) : List Yd := (List.range k).map (backE g hd m)
theorem backL_succ (g : LM) (hd : g.dat) (m k : Nat) : backL g hd m (k + 1) = backL g hd m k ++ [backE g hd m k] := by simp [backL, List.range_succ]
theorem backL_length (g : LM) (hd : g.dat) (m k : Nat) : (backL g hd m k).length = k := by simp [backL]
theorem peekF {F : Snap} {w : World} {H : List As} {b o : Nat} {cs : Array Value} {te : TypeId} {fr : Nat × Nat} {v : Value} (hw : Hp F w H) (hb : F.heap b = some (.cells cs te fr)) (hv : cs[o]? = some v) : PeekC (hp w) (some ⟨b, o, none⟩) [v] :=
  ⟨_, rfl, fun j q hj => by
    match j, hj with
    | 0, hj =>
      simp at hj; subst hj
      have h1 := hw.keep b _ hb
      have h2 : w.heap[b]? = some (.cells cs te fr) := h1
      simp [Heap.cell?, hp, Addr.add, h2, hv]⟩
theorem peekFN {F : Snap} {w : World} {H : List As} {b : Nat} {cs : Array Value} {te : TypeId} {fr : Nat × Nat} (hw : Hp F w H) (hb : F.heap b = some (.cells cs te fr)) : PeekC (hp w) (some ⟨b, 0, none⟩) cs.toList :=
  ⟨_, rfl, fun j q hj => by
    have h1 := hw.keep b _ hb
    have h2 : w.heap[b]? = some (.cells cs te fr) := h1
    have e : (⟨b, 0, none⟩ : Addr).add j = ⟨b, j, none⟩ := by rw [Addr.add_lit]; simp
    rw [e]
    simp [Heap.cell?, hp, h2]
    simpa using hj⟩
abbrev gcells (g : LM) : Array Value := #[.int .u64 g.base, .int .u64 g.bt, .slice g.ca g.conf.length g.cc, .slice g.la g.l.length g.lc]
def KpG (G0 : Heap) (W W' : World) : Prop := Heap.le G0 (hp W) → Heap.le G0 (hp W')
theorem bodyPost_none {P : Program} {fn : Func} {R : Ending → World → Prop} {N : Nat} {L : Lcs} {a : Act} {w : World} (hr : fn.results = #[]) (hf : Fits N L a) (h : R (.returned (.tuple #[])) w) : bodyPost P fn R .normal a w ∧ bodyPost P fn R .ret a w :=
  ⟨⟨hf.defers, _, results_none hr _ _ _, h⟩, ⟨hf.defers, _, results_none hr _ _ _, h⟩⟩

def mu4 (b : Int) (a : Act) : Nat := match a.tmps.getD 4 undef with
  | .int _ z => (z - b).toNat
  | _ => 0
theorem mu4_eq {N : Nat} {L : Lcs} {a : Act} {z b : Int} (h : Fits N L a) (hz : find L 4 = some (.int .u64 z)) : mu4 b a = (z - b).toNat := by
  unfold mu4
  rw [show a.tmps.getD 4 undef = .int .u64 z from h.eval (x := .tmp 4) hz]
set_option maxHeartbeats 4000000 in
theorem back_stops (g : LM) (i : Int) (hf : g.fit) (hd : g.dat) (hi : 0 ≤ i ∧ i ≤ 18446744073709551615) (Bi Bg : Nat) (w0 : World) (G0 : Heap) (hG : Heap.le G0 (hp w0)) (hBi : G0 Bi = some (.cells #[.int .u64 i] 27)) (hBg : G0 Bg = some (.cells (gcells g) 47)) (hrd : RdS G0 g.la (enV g.l)) (n : Nat) :
    SeqStopsK Fence.wide n Try.prog 111 #[Ptr Bi, Ptr Bg] encD (KpG G0) (fun ys => ys = backL g hd (backN g i) (backN g i)) (fun pre => ∃ k, k ≤ backN g i ∧ pre = backL g hd (backN g i) k) (backN g i) w0 := by
  intro l J Jx W hW hJ hJx hY h0
  have h1 := hf.lo
  have h2 := hf.hi
  have h3 := hf.len
  have hGW : Heap.le G0 (hp W) := fun b o hb => by
    have h4 := hG b o hb
    have h5 : b < w0.heap.size := (Array.getElem?_eq_some_iff.1 h4).1
    exact (hW.block b h5).trans h4
  obtain ⟨m, hm⟩ : ∃ m, m = backN g i := ⟨_, rfl⟩
  rw [← hm] at hY ⊢
  obtain ⟨z0, hz0⟩ : ∃ z, z = min i (lastI g) := ⟨_, rfl⟩
  have hmz : (g.base < z0 → (m : Int) = z0 - g.base) ∧ (z0 ≤ g.base → m = 0) ∧ m ≤ g.l.length ∧ 0 ≤ z0 ∧ z0 ≤ 18446744073709551615 := by
    rw [hm, hz0, backN, lastI]; omega
  refine callsIn_of_wp Try.func111 rfl trivial ?_ rfl
  refine (?_ : GN none n Try.prog 28 _ _ (argLoc 0 [.func (.yield l) #[] #[], Ptr Bi, Ptr Bg]) (snap W) []) _ _ (fits_enter 28 _ rfl) (hp_snap W)
  have hBi' : (snap W).heap Bi = some (.cells #[.int .u64 i] 27) := by rw [snap_heap]; exact hGW _ _ hBi
  have hBg' : (snap W).heap Bg = some (.cells (gcells g) 47) := by rw [snap_heap]; exact hGW _ _ hBg
  refine gn_seq ?_
  refine gn_plain ?_
  repeat (first | refine g_seq ?_ | refine at_code ?_ | refine g_skip ?_ | refine g_block ?_ | refine g_exit rfl ?_ | refine g_cond_t rfl ?_ | refine g_cond_f rfl ?_)
  refine g_draw0 ([0, 1], [0, 0, 2, 7, 15], [2]) 5 rfl ?_
  refine ga_readF 0 rfl (s_load1 rfl (fun w hw => peekF hw hBi' rfl)) (by (first | exact fun _ h => h | (repeat first | exact sub_nil | refine sub_cons (by repeat first | exact List.Mem.head _ | apply List.Mem.tail) ?_))) rfl rfl rfl (by kernel_rfl) ?_
  refine ga_readF 1 rfl ((s_loadN rfl (fun w hw => peekFN hw hBg') rfl).eq (v' := g.v) rfl) (by (first | exact fun _ h => h | (repeat first | exact sub_nil | refine sub_cons (by repeat first | exact List.Mem.head _ | apply List.Mem.tail) ?_))) rfl rfl rfl (by kernel_rfl) ?_
  refine ga_one 2 rfl (by kernel_rfl) ?_
  refine gl_callp rfl (end_ct g hf) (fun _ _ _ => trivial) rfl ?_
  refine gl_nil ?_
  refine at_ga (.inr (by exact keeps_of (by (first | exact fun _ h => h | (repeat first | exact sub_nil | refine sub_cons (by repeat first | exact List.Mem.head _ | apply List.Mem.tail) ?_))))) ?_
  refine ga_free 3 rfl ((s_min2 rfl rfl).eq (v' := .int .u64 z0) (by rw [hz0])) rfl rfl rfl (by kernel_rfl) ?_
  refine ga_free 4 rfl (s_assign rfl) rfl rfl rfl (by kernel_rfl) ?_
  refine ga_done (by kernel_rfl) ?_
  repeat (first | refine g_seq ?_ | refine at_code ?_ | refine g_skip ?_ | refine g_block ?_ | refine g_exit rfl ?_ | refine g_cond_t rfl ?_ | refine g_cond_f rfl ?_)
  refine at_gn ?_
  refine gn_block ?_
  intro a w hfa hwa
  have hgw := grown_of_hp hwa
  have hGw : Heap.le G0 (hp w) := Heap.le_trans hGW (by have := hwa.keep; rwa [snap_heap] at this)
  refine wpIn_loop (fun a w => ∃ k, k ≤ m ∧ Fits 28 [(0, .func (.yield l) #[] #[]), (2, Ptr Bg), (4, .int .u64 (z0 - (k : Nat)))] a ∧ J (backL g hd m k) w ∧ Heap.le G0 (hp w)) (fun a _ => mu4 g.base a) ⟨0, by omega, ?_, hJ [] W w none h0 hgw (fun r e => by cases e), hGw⟩ ?_
  · have h5 := hfa.sub (L' := [(0, .func (.yield l) #[] #[]), (2, Ptr Bg), (4, .int .u64 z0)]) (by (repeat (first | exact Sub.nil _ | refine Sub.cons rfl ?_)))
    simpa using h5
  · rintro a w ⟨k, hk, hfk, hJk, hGk⟩
    have hmu := mu4_eq (b := g.base) hfk rfl
    have hBg' : (snap w).heap Bg = some (.cells (gcells g) 47) := by rw [snap_heap]; exact hGk _ _ hBg
    have hrd' : RdS (snap w).heap g.la (enV g.l) := by rw [snap_heap]; exact hrd.le hGk
    refine (?_ : GN none n Try.prog 28 _ _ [(0, .func (.yield l) #[] #[]), (2, Ptr Bg), (4, .int .u64 (z0 - (k : Nat)))] (snap w) []) a w hfk (hp_snap w)
    refine gn_seq ?_
    refine gn_seq ?_
    refine gn_plain ?_
    repeat (first | refine g_seq ?_ | refine at_code ?_ | refine g_skip ?_ | refine g_block ?_ | refine g_exit rfl ?_ | refine g_cond_t rfl ?_ | refine g_cond_f rfl ?_)
    refine g_region ?_
    refine gl_f (s_move rfl) rfl rfl rfl ?_
    refine gl_f (by first | exact s_fieldAddr rfl (by rfl) (by infer_instance) (by decide) | exact s_fieldAddr_o rfl (by assumption) (by rfl) (by infer_instance) (by decide)) rfl rfl rfl ?_
    refine gl_r (s_load1 rfl (fun w hw => peekF hw hBg' rfl)) rfl rfl rfl ?_
    refine gl_f (s_gtr rfl rfl) rfl rfl rfl ?_
    refine gl_nil ?_
    repeat (first | refine g_seq ?_ | refine at_code ?_ | refine g_skip ?_ | refine g_block ?_ | refine g_exit rfl ?_ | refine g_cond_t rfl ?_ | refine g_cond_f rfl ?_)
    refine at_gn ?_
    refine gn_cond rfl (fun h => ?_) (fun h => ?_)
    · have hz : g.base < z0 - (k : Nat) := of_decide_eq_true h
      have hkm : k < m := by omega
      have hsome := rdE_some (i := m - k - 1) hrd' (by omega)
      refine gn_skip ?_
      refine at_gn ?_
      refine gn_seq ?_
      refine gn_block ?_
      refine gn_seq ?_
      refine gn_region2 (pre := List.take 11 _) (suf := List.drop 11 _) (List.take_append_drop 11 _).symm (.inl rfl) ?_
      refine gl_f (s_move rfl) rfl rfl rfl ?_
      refine gl_f (s_move rfl) rfl rfl rfl ?_
      refine gl_f (by first | exact s_fieldAddr rfl (by rfl) (by infer_instance) (by decide) | exact s_fieldAddr_o rfl (by assumption) (by rfl) (by infer_instance) (by decide)) rfl rfl rfl ?_
      refine gl_r (s_load1 rfl (fun w hw => peekF hw hBg' rfl)) rfl rfl rfl ?_
      refine gl_f (s_move rfl) rfl rfl rfl ?_
      refine gl_f (by first | exact s_fieldAddr rfl (by rfl) (by infer_instance) (by decide) | exact s_fieldAddr_o rfl (by assumption) (by rfl) (by infer_instance) (by decide)) rfl rfl rfl ?_
      refine gl_r (s_load1 rfl (fun w hw => peekF hw hBg' rfl)) rfl rfl rfl ?_
      refine gl_f (s_sub_u64 rfl rfl (by omega)) rfl rfl rfl ?_
      refine gl_f (s_sub_u64 rfl rfl (by omega)) rfl rfl rfl ?_
      refine gl_f (s_indexAddr rfl (by assumption) rfl (by omega)) rfl rfl rfl ?_
      refine gl_r ((s_loadN rfl (fun w hw => rdE hw hrd' (i := m - k - 1) (by omega) (by omega)) rfl).eq (v' := entV (g.l.getD (m - k - 1) E0)) rfl) rfl rfl rfl ?_
      refine gl_nil ?_
      unfold At
      intro a1 w1 hf1 hw1
      have hJ1 : J (backL g hd m k) w1 := hJ _ w w1 none hJk (grown_of_hp hw1) (fun r e => by cases e)
      have hG1 : Heap.le G0 (hp w1) := Heap.le_trans hGk (by have := hw1.keep; rwa [snap_heap] at this)
      have hx : backAt g m k = (z0 - (k : Nat), g.l.getD (m - k - 1) E0) := by
        rw [backAt]; congr 1; omega
      have hYk := hY (backL g hd m k) (backE g hd m k) w1 hJ1 (by rw [backL_length]; exact hkm)
      have he : encD (backE g hd m k) = [.int .u64 (z0 - (k : Nat)), entV (g.l.getD (m - k - 1) E0)].toArray := (show encD (backE g hd m k) = encY (backAt g m k) from rfl).trans (by rw [hx]; rfl)
      rw [he] at hYk
      refine yield_at (m := n - 1) (l := l) (vs := [.int .u64 (z0 - (k : Nat)), entV (g.l.getD (m - k - 1) E0)]) (hf1.eval (x := .tmp 15) rfl) (by simp only [List.map_cons, List.map_nil]; rw [hf1.eval (x := .tmp 16) rfl, hf1.eval (x := .tmp 25) rfl]) hYk rfl ?_
      have hbs : backL g hd m k ++ [backE g hd m k] = backL g hd m (k + 1) := (backL_succ g hd m k).symm
      rw [hbs]
      rintro e W' (⟨rfl, hJ', hKp⟩ | ⟨rfl, hJx'⟩)
      · refine ⟨_, rfl, ?_⟩
        have hG' := hKp hG1
        refine listIn_rest (F := snap W') (H := []) (.inl rfl) ?_ (hf1.put rfl _) (hp_snap W')
        refine gl_f (s_not rfl) rfl rfl rfl ?_
        refine gl_nil ?_
        refine at_gn ?_
        refine gn_cond rfl (fun h => absurd h (by decide)) (fun _ => ?_)
        refine gn_skip ?_
        refine at_gn ?_
        refine gn_plain ?_
        repeat (first | refine g_seq ?_ | refine at_code ?_ | refine g_skip ?_ | refine g_block ?_ | refine g_exit rfl ?_ | refine g_cond_t rfl ?_ | refine g_cond_f rfl ?_)
        refine g_region ?_
        refine gl_f (s_move rfl) rfl rfl rfl ?_
        refine gl_f (s_sub_u64 rfl rfl (by omega)) rfl rfl rfl ?_
        refine gl_f (s_assign rfl) rfl rfl rfl ?_
        refine gl_nil ?_
        repeat (first | refine g_seq ?_ | refine at_code ?_ | refine g_skip ?_ | refine g_block ?_ | refine g_exit rfl ?_ | refine g_cond_t rfl ?_ | refine g_cond_f rfl ?_)
        unfold At
        intro a2 w2 hf2 hw2
        refine ⟨⟨k + 1, by omega, ?_, hJ _ W' w2 none hJ' (grown_of_hp hw2) (fun r e => by cases e), Heap.le_trans hG' (by have := hw2.keep; rwa [snap_heap] at this)⟩, ?_⟩
        · have e9 : z0 - ((k + 1 : Nat) : Int) = z0 - (k : Nat) - 1 := by omega
          rw [e9]
          exact hf2.sub (by (repeat (first | exact Sub.nil _ | refine Sub.cons rfl ?_)))
        · rw [hmu, mu4_eq (b := g.base) hf2 rfl]; omega
      · refine ⟨_, rfl, ?_⟩
        refine listIn_rest (F := snap W') (H := []) (.inl rfl) ?_ (hf1.put rfl _) (hp_snap W')
        refine gl_f (s_not rfl) rfl rfl rfl ?_
        refine gl_nil ?_
        refine at_gn ?_
        refine gn_cond rfl (fun _ => ?_) (fun h => absurd h (by decide))
        refine gn_ret ?_
        unfold At
        intro a2 w2 hf2 hw2
        have hb := bodyPost_none (P := Try.prog) (fn := Try.f111) (R := fun e W' => (∃ v, e = .returned v) ∧ ((∃ ys, (ys = backL g hd m m) ∧ J ys W') ∨ (∃ pre, (∃ k, k ≤ m ∧ pre = backL g hd m k) ∧ Jx pre W'))) rfl hf2 ⟨⟨_, rfl⟩, .inr ⟨_, ⟨k + 1, by omega, rfl⟩, hJx _ W' w2 none hJx' (grown_of_hp hw2) (fun r e => by cases e)⟩⟩
        exact hb.2
    · have hz : z0 - (k : Nat) ≤ g.base := by have := of_decide_eq_false h; omega
      have hkm : k = m := by omega
      refine gn_exit ?_
      unfold At
      intro a2 w2 hf2 hw2
      have hb := bodyPost_none (P := Try.prog) (fn := Try.f111) (R := fun e W' => (∃ v, e = .returned v) ∧ ((∃ ys, (ys = backL g hd m m) ∧ J ys W') ∨ (∃ pre, (∃ k, k ≤ m ∧ pre = backL g hd m k) ∧ Jx pre W'))) rfl hf2 ⟨⟨_, rfl⟩, .inl ⟨_, rfl, by have h9 := hJ _ w w2 none hJk (grown_of_hp hw2) (fun r e => by cases e); have e9 : backL g hd m k = backL g hd m m := congrArg _ hkm; rw [← e9]; exact h9⟩⟩
      exact hb.1
end Go.Proofs.Ytodcghipfolejaa
