/- Plain law: the chain of a class is the least one. No program is named here. -/
import Derived.Test.YtpdimehoepfgaaaRd
namespace Go.Proofs.Ytpdimehoepfgaaa

def lexLe : List Int → List Int → Prop
  | [], _ => True
  | _ :: _, [] => False
  | a :: xs, b :: bs => a < b ∨ (a = b ∧ lexLe xs bs)

theorem lexLe_refl : ∀ a : List Int, lexLe a a
  | [] => trivial
  | _ :: xs => Or.inr ⟨rfl, lexLe_refl xs⟩

theorem lexLe_anti : ∀ {a b : List Int}, a.length = b.length → lexLe a b → lexLe b a → a = b
  | [], [], _, _, _ => rfl
  | [], _ :: _, h, _, _ => by simp at h
  | _ :: _, [], h, _, _ => by simp at h
  | a :: xs, b :: bs, hl, h1, h2 => by
    rcases h1 with h1 | ⟨rfl, h1⟩
    · rcases h2 with h2 | ⟨h2, _⟩ <;> omega
    · rcases h2 with h2 | ⟨_, h2⟩
      · omega
      · rw [lexLe_anti (by simpa using hl) h1 h2]

theorem lexLe_append : ∀ {a b c d : List Int}, a.length = b.length → lexLe a b → (a = b → lexLe c d) → lexLe (a ++ c) (b ++ d)
  | [], [], _, _, _, _, h => h rfl
  | [], _ :: _, _, _, hl, _, _ => by simp at hl
  | _ :: _, [], _, _, hl, _, _ => by simp at hl
  | a :: xs, b :: bs, c, d, hl, h1, h2 => by
    rcases h1 with h1 | ⟨rfl, h1⟩
    · exact Or.inl h1
    · exact Or.inr ⟨rfl, lexLe_append (by simpa using hl) h1 (fun e => h2 (by rw [e]))⟩

theorem next_unique {c : Con} {u w w' : Nat} (h : (c.a = (u : Int) ∧ c.b = (w : Int)) ∨ (c.b = (u : Int) ∧ c.a = (w : Int))) (h' : (c.a = (u : Int) ∧ c.b = (w' : Int)) ∨ (c.b = (u : Int) ∧ c.a = (w' : Int))) : w = w' := by omega

theorem PathI.end_ {l : List Con} : ∀ {es : List Int} {u v v' : Nat}, PathI l u es v → PathI l u es v' → v = v'
  | [], _, _, _, h, h' => Eq.trans (Eq.symm h) h'
  | k :: es, u, v, v', ⟨i, c, w, h1, h2, h3, h4, h5⟩, ⟨i', c', w', h1', h2', h3', h4', h5'⟩ => by
    have e : i = i' := by omega
    subst e
    rw [h2] at h2'
    cases h2'
    have e := next_unique h4 h4'
    subst e
    exact PathI.end_ h5 h5'

theorem walkM_out (E : List (List Edge)) (left : List Int) : ∀ (f u : Nat) (out : List Int), walkM E left f u out = ((walkM E left f u []).1, out ++ (walkM E left f u []).2) := by
  intro f
  induction f with
  | zero => intro u out; simp [walkM]
  | succ f ih =>
    intro u out
    by_cases h : 0 < left.getD u 0
    · rw [walkM, if_pos h, walkM, if_pos h, ih _ (out ++ _), ih _ ([] ++ _)]
      simp
    · rw [walkM, if_neg h, walkM, if_neg h]
      simp

/-- The way that is gone is the least of the shortest ones. -/
theorem walk_lex {l : List Con} {n : Nat} {T : List Nat} {left : List Int} (h : Ok l n) (hd : Dist (edgesM l n l.length) n T left) : ∀ (f u : Nat), u < n → left.getD u 0 = (f : Int) →
    ∀ (es' : List Int) (v' : Nat), PathI l u es' v' → v' ∈ T → v' < n → es'.length = f → lexLe (walkM (edgesM l n l.length) left f u []).2 es' := by
  intro f
  induction f with
  | zero =>
    intro u _ _ es' v' _ _ _ _
    simp [walkM, lexLe]
  | succ f ih =>
    intro u hu hl es' v' hp hv' hv'n hlen
    cases es' with
    | nil => simp at hlen
    | cons k' es1 =>
      obtain ⟨i, c, w, h1, h2, h3, h4, h5⟩ := hp
      have ha : Adj l u w := ⟨c, List.mem_of_getElem? h2, h3, h4⟩
      have hwn := (ha.lt h).2
      have hz : left.getD v' 0 = 0 := (hd.zero v' hv'n).2 hv'
      have hle := dist_le h hd es1.length v' w hv'n (by omega) h5.reach.symm
      have hl1 : es1.length = f := by simpa using hlen
      obtain ⟨e0, he0, he0t⟩ := (edge_adj h hwn).2 ha.symm
      have hnx := hd.next w hwn hle.2.1 e0 he0
      rw [he0t] at hnx
      have hlw : left.getD w 0 = left.getD u 0 - 1 := by omega
      obtain ⟨e, he, hne, hnd, hmin⟩ := nextM_spec hd (ok_sym h) hu (by omega)
      have hmem : (⟨i, w⟩ : Edge) ∈ (edgesM l n l.length).getD u [] := by
        rw [edges_getD l n u hu, mem_edgesUpto]
        refine ⟨c, h2, (List.getElem?_eq_some_iff.1 h2).1, h3, ?_⟩
        simp only
        rcases h4 with ⟨x, y⟩ | ⟨x, y⟩
        · exact .inl ⟨x, by omega⟩
        · exact .inr ⟨x, by omega⟩
      have hcon := hmin ⟨i, w⟩ hmem hlw
      simp only at hcon
      rw [walkM, if_pos (by omega), hne, walkM_out]
      simp only [Int.toNat_natCast, List.nil_append]
      have hton : e.to < n := getD_edges (ok_eto h) u e he
      rcases Nat.lt_or_ge e.con i with hlt | hge
      · show lexLe ((e.con : Int) :: _) (k' :: es1)
        exact Or.inl (by omega)
      · have hei : e.con = i := by omega
        have he' := he
        rw [edges_getD l n u hu] at he'
        obtain ⟨c', hc', _, hk', h1'⟩ := (mem_edgesUpto l l.length u e).1 he'
        rw [hei, h2] at hc'
        cases hc'
        have hb := ok_equal h (List.mem_of_getElem? h2) h3
        have hew : e.to = w := by omega
        show lexLe ((e.con : Int) :: _) (k' :: es1)
        refine Or.inr ⟨by omega, ?_⟩
        exact ih e.to hton (by omega) es1 v' (by rw [hew]; exact h5) hv' hv'n hl1

/-- The way to one vertex. -/
def wayM (l : List Con) (n u t : Nat) : List Int := (walkM (edgesM l n l.length) (ddL l n t) (dd l n t u).toNat u []).2

def cand (l : List Con) (n i k : Nat) (c c' : Con) : List Int := (i : Int) :: (wayM l n c.a.toNat c'.a.toNat ++ [(k : Int)])

theorem way_path {l : List Con} {n u t : Nat} (h : Ok l n) (hu : u < n) (ht : t < n) (h0 : 0 ≤ dd l n t u) : PathI l u (wayM l n u t) t ∧ ((wayM l n u t).length : Int) = dd l n t u := by
  obtain ⟨v, es, h1, h2, h3, h4, h5⟩ := walk_path h (dd_dist h ht) (dd l n t u).toNat u [] hu (by show dd l n t u = _; omega)
  have hes : wayM l n u t = es := by unfold wayM ddL; rw [h1]; simp
  have hvt : v = t := by
    have := ((dd_dist h ht).zero v h4).1 h5
    simpa using this
  subst hvt
  rw [hes]
  exact ⟨h2, by omega⟩

theorem way_lex {l : List Con} {n u t : Nat} (h : Ok l n) (hu : u < n) (ht : t < n) (h0 : 0 ≤ dd l n t u) {es : List Int} (hp : PathI l u es t) (hl : (es.length : Int) = dd l n t u) : lexLe (wayM l n u t) es :=
  walk_lex h (dd_dist h ht) (dd l n t u).toNat u hu (by show dd l n t u = _; omega) es t hp (by simp) ht (by omega)

theorem dd_symm {l : List Con} {n u t : Nat} (h : Ok l n) (hu : u < n) (ht : t < n) : dd l n t u = dd l n u t := by
  have l1 := dd_lo h hu ht
  have l2 := dd_lo h ht hu
  rcases Int.lt_or_le (dd l n t u) 0 with h1 | h1
  · rcases Int.lt_or_le (dd l n u t) 0 with h2 | h2
    · omega
    · have := dd_le h ht (dd_reach h hu ht h2).symm
      omega
  · have a := dd_le h hu (dd_reach h ht hu h1).symm
    have b := dd_le h ht (dd_reach h hu ht a.2.1).symm
    omega

/-- The chain of a mark: its way is the least one to its end, and it is the least of all shortest ones. -/
theorem chainOf_least {l : List Con} {n : Nat} (h : Ok l n) {i : Nat} {c : Con} (hc : l[i]? = some c) (hk : c.kind = 0) {ch : List Int} (hch : chainOf l n (i : Int) = some ch) :
    ∃ (j : Nat) (c' : Con), l[j]? = some c' ∧ c'.kind = 0 ∧ i < j ∧ cexcl c c' = true ∧ 0 ≤ dd l n c'.a.toNat c.a.toNat ∧ ch = cand l n i j c c' ∧
      ∀ k d, l[k]? = some d → d.kind = 0 → i < k → cexcl c d = true → 0 ≤ dd l n d.a.toNat c.a.toNat → (cand l n i k c d).length = ch.length → lexLe ch (cand l n i k c d) := by
  have hch0 := hch
  unfold chainOf at hch
  rw [Int.toNat_natCast, hc] at hch
  simp only at hch
  have hm := ok_mark h (List.mem_of_getElem? hc) hk
  have hs : c.a.toNat < n := by omega
  generalize hs0 : c.a.toNat = s0 at *
  unfold chainFrom at hch
  have hd0 := dd_dist h hs
  generalize hfar : distM (edgesM l n l.length) n [s0] = far at *
  have hsp := targets_spec far (fun v => (otherM l (marksUpto l l.length) i v).isSome) n
  have hmin := targets_min far (fun v => (otherM l (marksUpto l l.length) i v).isSome) n
  have hallt := targets_all far (fun v => (otherM l (marksUpto l l.length) i v).isSome) n
  generalize htt : targetsM far (fun v => (otherM l (marksUpto l l.length) i v).isSome) n = tt at *
  have hdd : ∀ v, dd l n s0 v = far.getD v 0 := fun v => by unfold dd; rw [hfar]
  split at hch
  · cases hch
  · rename_i hneg
    have hTt : ∀ v ∈ tt.2, v < n := fun v hv => (hsp.1 v hv).1
    have hdl : Dist (edgesM l n l.length) n tt.2 (distM (edgesM l n l.length) n tt.2) := distM_dist _ _ _ (ok_eto h) hTt
    generalize distM (edgesM l n l.length) n tt.2 = left at *
    simp only [Option.some.injEq] at hch
    have hne : tt.2 ≠ [] := fun e => hneg (hsp.2.1.2 e)
    obtain ⟨t0, ht0⟩ : ∃ t0, t0 ∈ tt.2 := List.exists_mem_of_ne_nil _ hne
    have ht0' := hsp.1 t0 ht0
    have hr0 : Reach l tt.1.toNat s0 t0 := by
      have h1 := dd_reach h hs ht0'.1 (by rw [hdd, ht0'.2.2]; omega)
      rw [hdd, ht0'.2.2] at h1
      exact h1
    have hz0 : left.getD t0 0 = 0 := (hdl.zero t0 ht0'.1).2 ht0
    have hl1 := dist_le h hdl tt.1.toNat t0 s0 ht0'.1 (by omega) hr0.symm
    have hl2 : tt.1 ≤ left.getD s0 0 := by
      obtain ⟨f, hf, hr⟩ := dist_reach h hdl (left.getD s0 0).toNat s0 hs (by omega)
      have h2 := (dd_le h hs hr.symm).2.2
      rw [hdd, (hsp.1 f hf).2.2] at h2
      omega
    have hls : left.getD s0 0 = tt.1 := by omega
    obtain ⟨v, es, h2, h3, h4, h5, h6⟩ := walk_path h hdl (left.getD s0 0).toNat s0 [] hs (by omega)
    have hwl := walk_lex h hdl (left.getD s0 0).toNat s0 hs (by omega)
    rw [walkM_out, h2] at hch
    rw [h2] at hwl
    simp only [List.nil_append] at hch hwl
    have hvt : v ∈ tt.2 := (hdl.zero v h5).1 h6
    have hvs := hsp.1 v hvt
    obtain ⟨j, hj⟩ := Option.isSome_iff_exists.1 hvs.2.1
    obtain ⟨hjm, hij, ci, cj, hi', hj', hx⟩ := other_some hj
    rw [hc] at hi'
    cases hi'
    obtain ⟨c', hc', _, hk', ha'⟩ := (mem_marksUpto l l.length v j).1 hjm
    rw [hj'] at hc'
    cases hc'
    have hav : cj.a.toNat = v := by omega
    have hdv : dd l n v s0 = tt.1 := by rw [dd_symm h hs h5, hdd]; exact hvs.2.2
    have hchE : ch = (i : Int) :: (es ++ [(j : Int)]) := by rw [← hch, hj]; simp
    have hes : es = wayM l n s0 v := by
      have hw := way_path h hs h5 (by omega)
      refine lexLe_anti (by omega) (hwl _ v hw.1 hvt h5 (by omega)) (way_lex h hs h5 (by omega) h3 (by omega))
    refine ⟨j, cj, hj', hk', hij, hx, by rw [hav]; omega, ?_, fun k d hkd hdk hik hxd h0d hlen => ?_⟩
    · rw [hchE]
      unfold cand
      rw [hav, hs0, hes]
    · have hmd := ok_mark h (List.mem_of_getElem? hkd) hdk
      have hdn : d.a.toNat < n := by omega
      have hw := way_path h hs hdn h0d
      rw [hchE] at hlen
      unfold cand at hlen
      rw [hs0] at hlen
      have hlw : (wayM l n s0 d.a.toNat).length = es.length := by simpa using hlen
      have hokd : (otherM l (marksUpto l l.length) i d.a.toNat).isSome = true := other_is ((mem_marksUpto l l.length _ k).2 ⟨d, hkd, (List.getElem?_eq_some_iff.1 hkd).1, hdk, by omega⟩) hik hc hkd hxd
      have hfd : far.getD d.a.toNat 0 = tt.1 := by
        rw [← hdd, ← dd_symm h hs hdn]
        omega
      have hdt : d.a.toNat ∈ tt.2 := hallt _ hdn hokd (by omega) hfd
      rw [hchE]
      unfold cand
      rw [hs0]
      refine Or.inr ⟨rfl, lexLe_append hlw.symm (hwl _ _ hw.1 hdt hdn (by omega)) (fun e => ?_)⟩
      have hvd : v = d.a.toNat := PathI.end_ h3 (by rw [e]; exact hw.1)
      -- the mark at the end is the least one
      have hjk : j ≤ k := by
        have hf := hj
        unfold otherM at hf
        rw [List.find?_eq_some_iff_append] at hf
        obtain ⟨_, xs, bs, hsplit, hno⟩ := hf
        have hkm : k ∈ marksUpto l l.length v := by
          rw [hvd]
          exact (mem_marksUpto l l.length _ k).2 ⟨d, hkd, (List.getElem?_eq_some_iff.1 hkd).1, hdk, by omega⟩
        have hsorted : (marksUpto l l.length v).Pairwise (· < ·) := by
          unfold marksUpto
          exact List.Pairwise.filter _ (List.pairwise_lt_range)
        rw [hsplit] at hkm hsorted
        rcases List.mem_append.1 hkm with hm1 | hm1
        · have := hno k hm1
          rw [hc, hkd] at this
          simp [hik, hxd] at this
        · rcases List.mem_cons.1 hm1 with rfl | hm1
          · exact Nat.le_refl _
          · have := (List.pairwise_append.1 hsorted).2.1
            have := (List.pairwise_cons.1 this).1 k hm1
            omega
      show lexLe [(j : Int)] [(k : Int)]
      rcases Nat.lt_or_ge j k with h1 | h1
      · exact Or.inl (by omega)
      · exact Or.inr ⟨by omega, trivial⟩

end Go.Proofs.Ytpdimehoepfgaaa
