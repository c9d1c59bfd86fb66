/- Plain laws of the graph of constraints: ways, distances, and what chainFrom returns. No program is named here. -/
import Derived.Test.YtpdimehoepfgaaaSolveM
namespace Go.Proofs.Ytpdimehoepfgaaa

def Adj (l : List Con) (u v : Nat) : Prop := ∃ c ∈ l, c.kind = 1 ∧ ((c.a = (u : Int) ∧ c.b = (v : Int)) ∨ (c.b = (u : Int) ∧ c.a = (v : Int)))

def Reach (l : List Con) : Nat → Nat → Nat → Prop
  | 0, u, v => u = v
  | k + 1, u, v => ∃ w, Adj l u w ∧ Reach l k w v

def Ok (l : List Con) (n : Nat) : Prop := ∀ c ∈ l, okCon n c = true

theorem Adj.symm {l : List Con} {u v : Nat} (h : Adj l u v) : Adj l v u := by
  obtain ⟨c, hc, hk, h⟩ := h
  refine ⟨c, hc, hk, ?_⟩
  rcases h with ⟨a, b⟩ | ⟨a, b⟩
  · exact .inr ⟨b, a⟩
  · exact .inl ⟨b, a⟩

theorem Adj.sub {l l' : List Con} (hs : ∀ c ∈ l, c ∈ l') {u v : Nat} (h : Adj l u v) : Adj l' u v := by
  obtain ⟨c, hc, h⟩ := h
  exact ⟨c, hs c hc, h⟩

theorem Reach.snoc {l : List Con} {v w : Nat} (ha : Adj l v w) : ∀ {k u : Nat}, Reach l k u v → Reach l (k + 1) u w
  | 0, u, h => ⟨w, by rw [show u = v from h]; exact ha, rfl⟩
  | k + 1, _, ⟨x, hx, h⟩ => ⟨x, hx, Reach.snoc ha h⟩

theorem Reach.symm {l : List Con} : ∀ {k u v : Nat}, Reach l k u v → Reach l k v u
  | 0, _, _, h => Eq.symm h
  | _ + 1, _, _, ⟨_, hx, h⟩ => Reach.snoc hx.symm (Reach.symm h)

theorem Reach.trans {l : List Con} : ∀ {a b u v w : Nat}, Reach l a u v → Reach l b v w → Reach l (a + b) u w
  | 0, b, u, v, w, h, h' => by rw [show u = v from h, Nat.zero_add]; exact h'
  | a + 1, b, _, _, _, ⟨x, hx, h⟩, h' => by
    rw [show a + 1 + b = (a + b) + 1 by omega]
    exact ⟨x, hx, Reach.trans h h'⟩

theorem Reach.sub {l l' : List Con} (hs : ∀ c ∈ l, c ∈ l') : ∀ {k u v : Nat}, Reach l k u v → Reach l' k u v
  | 0, _, _, h => h
  | _ + 1, _, _, ⟨x, hx, h⟩ => ⟨x, hx.sub hs, Reach.sub hs h⟩

theorem ok_equal {l : List Con} {n : Nat} (h : Ok l n) {c : Con} (hc : c ∈ l) (hk : c.kind = 1) : 0 ≤ c.a ∧ c.a < n ∧ 0 ≤ c.b ∧ c.b < n := by
  have := h c hc
  simp [okCon, inB, hk] at this
  omega

theorem ok_mark {l : List Con} {n : Nat} (h : Ok l n) {c : Con} (hc : c ∈ l) (hk : c.kind = 0) : 0 ≤ c.a ∧ c.a < n ∧ isMarkB c.tk c.tl c.tr = true := by
  have := h c hc
  simp [okCon, inB, hk] at this
  exact ⟨this.1.1, this.1.2, this.2⟩

theorem Adj.lt {l : List Con} {n : Nat} (h : Ok l n) {u v : Nat} (ha : Adj l u v) : u < n ∧ v < n := by
  obtain ⟨c, hc, hk, h1⟩ := ha
  have := ok_equal h hc hk
  omega

theorem Reach.lt {l : List Con} {n : Nat} (h : Ok l n) : ∀ {k u v : Nat}, u < n → Reach l k u v → v < n
  | 0, u, v, hu, hr => by rw [← show u = v from hr]; exact hu
  | _ + 1, _, _, _, ⟨_, hx, hr⟩ => Reach.lt h (hx.lt h).2 hr

theorem edges_getD (l : List Con) (n u : Nat) (hu : u < n) : (edgesM l n l.length).getD u [] = edgesUpto l l.length u := by
  rw [List.getD_eq_getElem?_getD, edgesM_get l n _ u hu]; rfl

theorem edge_adj {l : List Con} {n : Nat} (h : Ok l n) {u v : Nat} (hu : u < n) : (∃ e ∈ (edgesM l n l.length).getD u [], e.to = v) ↔ Adj l u v := by
  rw [edges_getD l n u hu]
  constructor
  · rintro ⟨e, he, hv⟩
    obtain ⟨c, hc, hi, hk, h1⟩ := (mem_edgesUpto l l.length u e).1 he
    have hm := List.mem_of_getElem? hc
    have := ok_equal h hm hk
    refine ⟨c, hm, hk, ?_⟩
    rcases h1 with ⟨ha, ht⟩ | ⟨hb, ht⟩
    · exact .inl ⟨ha, by omega⟩
    · exact .inr ⟨hb, by omega⟩
  · rintro ⟨c, hc, hk, h1⟩
    obtain ⟨i, hi, rfl⟩ := List.getElem_of_mem hc
    refine ⟨⟨i, v⟩, (mem_edgesUpto l l.length u ⟨i, v⟩).2 ⟨l[i], List.getElem?_eq_getElem hi, hi, hk, ?_⟩, rfl⟩
    rcases h1 with ⟨ha, hb⟩ | ⟨hb, ha⟩
    · exact .inl ⟨ha, by simp only; omega⟩
    · exact .inr ⟨hb, by simp only; omega⟩

section
variable {l : List Con} {n : Nat} {F : List Nat} {d : List Int}

theorem dist_reach (h : Ok l n) (hd : Dist (edgesM l n l.length) n F d) : ∀ (m v : Nat), v < n → d.getD v 0 = (m : Int) → ∃ f ∈ F, Reach l m f v := by
  intro m
  induction m with
  | zero =>
    intro v hv hm
    exact ⟨v, (hd.zero v hv).1 (by simpa using hm), rfl⟩
  | succ m ih =>
    intro v hv hm
    obtain ⟨u, hu, hue, hud⟩ := hd.pred v hv (by omega)
    obtain ⟨f, hf, hr⟩ := ih u hu (by omega)
    exact ⟨f, hf, hr.snoc ((edge_adj h hu).1 hue)⟩

theorem dist_le (h : Ok l n) (hd : Dist (edgesM l n l.length) n F d) : ∀ (k u v : Nat), u < n → 0 ≤ d.getD u 0 → Reach l k u v → v < n ∧ 0 ≤ d.getD v 0 ∧ d.getD v 0 ≤ d.getD u 0 + k := by
  intro k
  induction k with
  | zero =>
    intro u v hu h0 hr
    have : u = v := hr
    subst this
    exact ⟨hu, h0, by omega⟩
  | succ k ih =>
    intro u v hu h0 hr
    obtain ⟨x, hx, hr⟩ := hr
    obtain ⟨e, he, hex⟩ := (edge_adj h hu).2 hx
    have h1 := hd.next u hu h0 e he
    rw [hex] at h1
    obtain ⟨h2, h3, h4⟩ := ih x v (hx.lt h).2 h1.1 hr
    exact ⟨h2, h3, by omega⟩
end

theorem ok_eto {l : List Con} {n : Nat} (h : Ok l n) : ∀ es ∈ edgesM l n l.length, ∀ e ∈ es, e.to < n := by
  intro es hes e he
  obtain ⟨v, hv, rfl⟩ := List.mem_map.1 hes
  have hv' : v < n := by simpa using hv
  have := (edge_adj h hv').1 ⟨e, by rw [edges_getD l n v hv']; exact he, rfl⟩
  exact (this.lt h).2

theorem ok_sym {l : List Con} {n : Nat} (h : Ok l n) : ∀ u v, u < n → (∃ e ∈ (edgesM l n l.length).getD u [], e.to = v) → ∃ e ∈ (edgesM l n l.length).getD v [], e.to = u := by
  intro u v hu he
  have ha := (edge_adj h hu).1 he
  exact (edge_adj h (ha.lt h).2).2 ha.symm

/-- The distances from a vertex. -/
def dd (l : List Con) (n s v : Nat) : Int := (distM (edgesM l n l.length) n [s]).getD v 0

section
variable {l : List Con} {n s : Nat}
theorem dd_dist (h : Ok l n) (hs : s < n) : Dist (edgesM l n l.length) n [s] (distM (edgesM l n l.length) n [s]) := distM_dist _ _ _ (ok_eto h) (by simpa using hs)
theorem dd_lo (h : Ok l n) (hs : s < n) {v : Nat} (hv : v < n) : -1 ≤ dd l n s v := (dd_dist h hs).lo v hv
theorem dd_reach (h : Ok l n) (hs : s < n) {v : Nat} (hv : v < n) (h0 : 0 ≤ dd l n s v) : Reach l (dd l n s v).toNat s v := by
  obtain ⟨f, hf, hr⟩ := dist_reach h (dd_dist h hs) (dd l n s v).toNat v hv (by show dd l n s v = _; omega)
  simp at hf
  subst hf
  exact hr
theorem dd_self (h : Ok l n) (hs : s < n) : dd l n s s = 0 := ((dd_dist h hs).zero s hs).2 (by simp)
theorem dd_le (h : Ok l n) (hs : s < n) {k v : Nat} (hr : Reach l k s v) : v < n ∧ 0 ≤ dd l n s v ∧ dd l n s v ≤ k := by
  have h0 := dd_self h hs
  have := dist_le h (dd_dist h hs) k s v hs (by show 0 ≤ dd l n s s; omega) hr
  refine ⟨this.1, this.2.1, ?_⟩
  have h1 := this.2.2
  change dd l n s v ≤ dd l n s s + k at h1
  omega
end

/-- Two vertices are in one class. -/
def Conn (l : List Con) (u v : Nat) : Prop := ∃ k, Reach l k u v
theorem Conn.refl (l : List Con) (u : Nat) : Conn l u u := ⟨0, rfl⟩
theorem Conn.symm {l : List Con} {u v : Nat} (h : Conn l u v) : Conn l v u := by obtain ⟨k, h⟩ := h; exact ⟨k, h.symm⟩
theorem Conn.trans {l : List Con} {u v w : Nat} (h : Conn l u v) (h' : Conn l v w) : Conn l u w := by obtain ⟨a, h⟩ := h; obtain ⟨b, h'⟩ := h'; exact ⟨a + b, h.trans h'⟩
theorem Conn.sub {l l' : List Con} (hs : ∀ c ∈ l, c ∈ l') {u v : Nat} (h : Conn l u v) : Conn l' u v := by obtain ⟨k, h⟩ := h; exact ⟨k, h.sub hs⟩
theorem conn_dd {l : List Con} {n s v : Nat} (h : Ok l n) (hs : s < n) (hv : v < n) : Conn l s v ↔ 0 ≤ dd l n s v := by
  constructor
  · rintro ⟨k, hr⟩
    exact (dd_le h hs hr).2.1
  · intro h0
    exact ⟨_, dd_reach h hs hv h0⟩

theorem targets_min (far : List Int) (ok : Nat → Bool) (k : Nat) : ∀ v, v < k → ok v = true → 0 ≤ far.getD v 0 → 0 ≤ (targetsM far ok k).1 ∧ (targetsM far ok k).1 ≤ far.getD v 0 := by
  induction k with
  | zero => intro v hv; omega
  | succ k ih =>
    intro v hv hok h0
    rw [targets_take]
    generalize hst : targetsM far ok k = st at *
    have key : v = k ∨ (0 ≤ st.1 ∧ st.1 ≤ far.getD v 0) := by
      by_cases hvk : v = k
      · exact .inl hvk
      · exact .inr (ih v (by omega) hok h0)
    unfold tstep
    by_cases c1 : far.getD k 0 < 0 ∨ (0 ≤ st.1 ∧ st.1 < far.getD k 0)
    · rw [if_pos c1]
      rcases key with rfl | key
      · omega
      · exact key
    · rw [if_neg c1]
      by_cases c2 : ok k = false
      · rw [if_pos c2]
        rcases key with rfl | key
        · rw [hok] at c2; cases c2
        · exact key
      · rw [if_neg c2]
        by_cases c3 : st.1 < 0 ∨ far.getD k 0 < st.1
        · rw [if_pos c3]
          simp only
          rcases key with rfl | key
          · omega
          · omega
        · rw [if_neg c3]
          simp only
          rcases key with rfl | key
          · omega
          · exact key

theorem targets_all (far : List Int) (ok : Nat → Bool) (k : Nat) : ∀ v, v < k → ok v = true → 0 ≤ far.getD v 0 → far.getD v 0 = (targetsM far ok k).1 → v ∈ (targetsM far ok k).2 := by
  induction k with
  | zero => intro v hv; omega
  | succ k ih =>
    intro v hv hok h0 he
    have hmin := targets_min far ok k
    rw [targets_take] at he ⊢
    generalize hst : targetsM far ok k = st at *
    unfold tstep at he ⊢
    by_cases c1 : far.getD k 0 < 0 ∨ (0 ≤ st.1 ∧ st.1 < far.getD k 0)
    · rw [if_pos c1] at he ⊢
      by_cases hvk : v = k
      · subst hvk; omega
      · exact ih v (by omega) hok h0 he
    · rw [if_neg c1] at he ⊢
      by_cases c2 : ok k = false
      · rw [if_pos c2] at he ⊢
        by_cases hvk : v = k
        · subst hvk; rw [hok] at c2; cases c2
        · exact ih v (by omega) hok h0 he
      · rw [if_neg c2] at he ⊢
        by_cases c3 : st.1 < 0 ∨ far.getD k 0 < st.1
        · rw [if_pos c3] at he ⊢
          simp only at he ⊢
          by_cases hvk : v = k
          · simp [hvk]
          · have := hmin v (by omega) hok h0
            omega
        · rw [if_neg c3] at he ⊢
          simp only at he ⊢
          by_cases hvk : v = k
          · simp [hvk]
          · exact List.mem_append.2 (.inl (ih v (by omega) hok h0 he))

/-- A list of equalities leads from u to v. -/
def PathI (l : List Con) : Nat → List Int → Nat → Prop
  | u, [], v => u = v
  | u, k :: es, v => ∃ (i : Nat) (c : Con) (w : Nat), k = (i : Int) ∧ l[i]? = some c ∧ c.kind = 1 ∧ ((c.a = (u : Int) ∧ c.b = (w : Int)) ∨ (c.b = (u : Int) ∧ c.a = (w : Int))) ∧ PathI l w es v

theorem PathI.reach {l : List Con} : ∀ {es : List Int} {u v : Nat}, PathI l u es v → Reach l es.length u v
  | [], _, _, h => h
  | _ :: _, _, _, ⟨_, c, w, _, hc, hk, h1, h⟩ => ⟨w, ⟨c, List.mem_of_getElem? hc, hk, h1⟩, PathI.reach h⟩

theorem walk_path {l : List Con} {n : Nat} {T : List Nat} {left : List Int} (h : Ok l n) (hd : Dist (edgesM l n l.length) n T left) : ∀ (f u : Nat) (out : List Int), u < n → left.getD u 0 = (f : Int) →
    ∃ (v : Nat) (es : List Int), walkM (edgesM l n l.length) left f u out = (v, out ++ es) ∧ PathI l u es v ∧ es.length = f ∧ v < n ∧ left.getD v 0 = 0 := by
  intro f
  induction f with
  | zero =>
    intro u out hu hl
    exact ⟨u, [], by simp [walkM], rfl, rfl, hu, by simpa using hl⟩
  | succ f ih =>
    intro u out hu hl
    obtain ⟨e, he, hne, hnd, _⟩ := nextM_spec hd (ok_sym h) hu (by omega)
    have he' := he
    rw [edges_getD l n u hu] at he'
    obtain ⟨c, hc, hi, hk, h1⟩ := (mem_edgesUpto l l.length u e).1 he'
    have hco := ok_equal h (List.mem_of_getElem? hc) hk
    have hto := ok_eto h
    have hton : e.to < n := getD_edges (ok_eto h) u e he
    obtain ⟨v, es, h2, h3, h4, h5, h6⟩ := ih e.to (out ++ [(e.con : Int)]) hton (by omega)
    refine ⟨v, (e.con : Int) :: es, ?_, ⟨e.con, c, e.to, rfl, hc, hk, ?_, h3⟩, by simp [h4], h5, h6⟩
    · rw [walkM, if_pos (by omega), hne]
      simp only [Int.toNat_natCast]
      rw [h2]
      simp
    · rcases h1 with ⟨ha, hb⟩ | ⟨hb, ha⟩
      · exact .inl ⟨ha, by omega⟩
      · exact .inr ⟨hb, by omega⟩

/-- What chainFrom returns. -/
theorem chain_some {l : List Con} {n : Nat} (h : Ok l n) {other : Nat → Option Nat} {i s0 : Nat} (hs : s0 < n) {ch : List Int} (hch : chainFrom (edgesM l n l.length) n other i s0 = some ch) :
    ∃ (v j : Nat) (es : List Int), ch = (i : Int) :: (es ++ [(j : Int)]) ∧ v < n ∧ other v = some j ∧ PathI l s0 es v ∧ (es.length : Int) = dd l n s0 v ∧ ∀ v', v' < n → (other v').isSome = true → 0 ≤ dd l n s0 v' → (es.length : Int) ≤ dd l n s0 v' := by
  unfold chainFrom at hch
  have hd0 := dd_dist h hs
  generalize hfar : distM (edgesM l n l.length) n [s0] = far at *
  have hsp := targets_spec far (fun v => (other v).isSome) n
  have hmin := targets_min far (fun v => (other v).isSome) n
  generalize htt : targetsM far (fun v => (other v).isSome) n = tt at *
  have hdd : ∀ v, dd l n s0 v = far.getD v 0 := fun v => by unfold dd; rw [hfar]
  split at hch
  · cases hch
  · rename_i hneg
    have hTt : ∀ v ∈ tt.2, v < n := fun v hv => (hsp.1 v hv).1
    have hdl : Dist (edgesM l n l.length) n tt.2 (distM (edgesM l n l.length) n tt.2) := distM_dist _ _ _ (ok_eto h) hTt
    generalize distM (edgesM l n l.length) n tt.2 = left at *
    simp only [Option.some.injEq] at hch
    -- the distance from the start to the targets is the least
    have hne : tt.2 ≠ [] := fun e => hneg (hsp.2.1.2 e)
    obtain ⟨t0, ht0⟩ : ∃ t0, t0 ∈ tt.2 := List.exists_mem_of_ne_nil _ hne
    have ht0' := hsp.1 t0 ht0
    have hr0 : Reach l tt.1.toNat s0 t0 := by
      have h1 := dd_reach h hs ht0'.1 (by rw [hdd, ht0'.2.2]; omega)
      rw [hdd, ht0'.2.2] at h1
      exact h1
    have hz0 : left.getD t0 0 = 0 := (hdl.zero t0 ht0'.1).2 ht0
    have hl1 := dist_le h hdl tt.1.toNat t0 s0 ht0'.1 (by omega) hr0.symm
    have hl2 : tt.1 ≤ left.getD s0 0 := by
      obtain ⟨f, hf, hr⟩ := dist_reach h hdl (left.getD s0 0).toNat s0 hs (by omega)
      have h2 := (dd_le h hs hr.symm).2.2
      rw [hdd, (hsp.1 f hf).2.2] at h2
      omega
    obtain ⟨v, es, h2, h3, h4, h5, h6⟩ := walk_path h hdl (left.getD s0 0).toNat s0 [(i : Int)] hs (by omega)
    rw [h2] at hch
    have hvt : v ∈ tt.2 := (hdl.zero v h5).1 h6
    have hvs := hsp.1 v hvt
    obtain ⟨j, hj⟩ := Option.isSome_iff_exists.1 hvs.2.1
    refine ⟨v, j, es, ?_, h5, hj, h3, ?_, fun v' hv' hok' h0' => ?_⟩
    · rw [← hch, hj]
      simp
    · rw [hdd, hvs.2.2]
      omega
    · rw [hdd] at h0' ⊢
      have := (hmin v' hv' hok' h0').2
      omega

theorem chain_none {l : List Con} {n : Nat} {other : Nat → Option Nat} {i s0 : Nat} (hch : chainFrom (edgesM l n l.length) n other i s0 = none) :
    ∀ v, v < n → (other v).isSome = true → dd l n s0 v < 0 := by
  intro v hv hok
  unfold chainFrom at hch
  split at hch
  · rename_i hneg
    rcases Int.lt_or_le (dd l n s0 v) 0 with h1 | h1
    · exact h1
    · have := (targets_min _ (fun v => (other v).isSome) n v hv hok h1).1
      omega
  · cases hch

end Go.Proofs.Ytpdimehoepfgaaa
