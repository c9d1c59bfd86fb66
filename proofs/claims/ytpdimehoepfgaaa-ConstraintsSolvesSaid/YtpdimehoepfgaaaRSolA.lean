/- Words for the reference's Solve. -/
import Derived.Test.YtpdimehoepfgaaaWay
import Derived.Test.YtpdimehoepfgaaaValid
namespace Go.Proofs.Ytpdimehoepfgaaa
open Go.RowKit

theorem OwnS.ne_blk {w : World} {base : Nat} {e : TypeId} {size : Nat} {v : Value} {n : Nat} {xs : List Value} (h : OwnS w base e size v n xs) {g : Nat} {t : TypeId} {cs : Array Value} (hb : Blk w g t cs) (hne : e ≠ t) : v.ownBlock ≠ some g := by
  intro hv
  rcases h.2 with ⟨rfl, _⟩ | ⟨g1, off1, cap1, cur1, rfl, _, hg1, _⟩
  · cases hv
  · have e1 : g1 = g := by simpa [Value.ownBlock] using hv
    subst e1
    unfold Blk at hb
    rw [hb] at hg1
    simp at hg1
    exact hne hg1.2.symm

theorem ChainsOwn.since2 {S : Nat → Prop} {w w' : World} {base : Nat} {v : Value} {chs : List (List Int)} (h : ChainsOwn w base v chs) (hs : Since S w w') (hS : ∀ g, S g → g < base ∨ ∃ t cs, Blk w g t cs ∧ 33 ≠ t ∧ 3 ≠ t) : ChainsOwn w' base v chs := by
  obtain ⟨vals, h1, h2⟩ := h
  have key : ∀ {e : TypeId} {x : Value} {m : Nat} {xs : List Value}, OwnS w base e 1 x m xs → (e = 33 ∨ e = 3) → OwnS w' base e 1 x m xs := fun ho he => ho.since hs (fun g hg h3 => by
    rcases hS g h3 with h4 | ⟨t, cs, hb, n1, n2⟩
    · have := (ho.lt g hg).1; omega
    · refine ho.ne_blk hb ?_ hg
      rcases he with rfl | rfl
      · exact n1
      · exact n2)
  refine ⟨vals, key h1 (.inl rfl), fun j ch hj => ?_⟩
  obtain ⟨x, hx, ho⟩ := h2 j ch hj
  exact ⟨x, hx, key ho (.inr rfl)⟩

section
variable {P : Program} (w : World)
theorem wpList_append_Q {ops : Array Oper} {rest : List Oper} {o : Oper} {a : Act} {Q : Exit → Act → World → Prop} (hgd : o.guard = none) (s x : Operand) (t : TypeId)
    (ho : o.op = .call { callee := .builtin .append, args := #[s, x], argTypes := #[t, t] })
    (base : Nat) (e : TypeId) (i : TypeInfo) (z : Value) (size bytes : Nat) (ht : P.underlying t = some (.slice e)) (hi : P.info? e = some i) (hz : i.zero = some z)
    (hsize : i.size = size) (hby : i.bytes = bytes) (hzs : z.cells.size = size) (hs0 : 0 < size)
    (v : Value) (n : Nat) (xs : List Value) (hs : a.eval s = v) (hown : OwnS w base e size v n xs)
    (A : Option Addr) (m c : Nat) (news : List Value) (hx : a.eval x = .slice A m c) (hl : news.length = m * size) (hnews : ∀ j u, news[j]? = some u → ∃ a, A = some a ∧ w.cell? (a.add j) = some u) (h1 : ∀ u ∈ news, u.oneCell' = true)
    (h63 : n + m ≤ maxLen) (hbytes : (n + m) * bytes ≤ 140737488355328) (hbase : base ≤ w.heap.size)
    (h : ∀ v' w', OwnS w' base e size v' (n + m) (xs ++ news) → w.grownBy w' v.ownBlock → (v'.ownBlock = v.ownBlock ∨ v'.ownBlock = some w.heap.size) → wpList P ops Q rest (a.put o.dst v') w') : wpList P ops Q (o :: rest) a w :=
  wpList_plain hgd fun _ hK => by
    obtain ⟨v', w', hr, h2, h3, h4⟩ := run_append_Q (P := P) w base t o.type e i z size bytes ht hi hz hsize hby hzs hs0 v n xs hown A m c news hl hnews h1 h63 hbytes hbase
    unfold Oper.wp execOp
    simp only [ho, resolve, invoke, builtin, Sem.run_bind, Sem.run_pure, Result.andThen_ok, List.map_toArray, List.map_cons, List.map_nil, hs, hx, hr]
    exact hK _ _ (h v' w' h2 h3 h4)
end

theorem ints_one (l : List Int) : ∀ u ∈ ivs l, u.oneCell' = true := by
  intro u hu
  obtain ⟨z, _, rfl⟩ := List.mem_map.1 hu
  rfl

/-- The distances to the end of a chain: not yet reckoned, or known. -/
def ToR (wr : World) (n : Nat) (D : List Int) (lo : Nat) (s : Value) : Prop := (∃ A c, s = .slice A 0 c) ∨ ∃ g, s = .slice (some ⟨g, 0, none⟩) n n ∧ IntsBlk wr g D ∧ lo ≤ g

theorem ToR.below {wr wx : World} {n : Nat} {D : List Int} {lo : Nat} {s : Value} (h : ToR wr n D lo s) (hb : Below wr.heap.size wr wx) : ToR wx n D lo s := by
  rcases h with h | ⟨g, h1, h2, h3⟩
  · exact .inl h
  · exact .inr ⟨g, h1, h2.below hb h2.lt, h3⟩

theorem IntsBlk.row {w : World} {g : Nat} {l : List Int} (h : IntsBlk w g l) : RowAt 1 (fun z => [Value.int .i64 z]) w w.heap.size (some ⟨g, 0, none⟩) l := by
  intro k c hk
  refine ⟨g, 0, rfl, h.lt, fun j v hj => ?_⟩
  cases j with
  | zero =>
    simp at hj
    subst hj
    have hkl := (List.getElem?_eq_some_iff.1 hk).1
    have := h.cell hkl
    rw [List.getD_eq_getElem?_getD, hk] at this
    simpa using this
  | succ j => simp at hj

section
variable {l : List Con} {n v : Nat}
theorem istep_skip {k : Nat} {d : Con} {best : List Int} {i : Nat} {c : Con} (hc : l[i]? = some c) (h : c.kind ≠ 0 ∨ dd l n v c.a.toNat < 0 ∨ cexcl c d = false) : istep l n v k d best i = best := by
  unfold istep
  rw [hc]
  simp only
  rw [if_pos h]
theorem istep_far {k : Nat} {d : Con} {best : List Int} {i : Nat} {c : Con} (hc : l[i]? = some c) (h : best ≠ [] ∧ (best.length : Int) < dd l n d.a.toNat c.a.toNat + 2) : istep l n v k d best i = best := by
  unfold istep
  rw [hc]
  simp only
  by_cases h1 : c.kind ≠ 0 ∨ dd l n v c.a.toNat < 0 ∨ cexcl c d = false
  · rw [if_pos h1]
  · rw [if_neg h1, if_pos h]
theorem istep_go {k : Nat} {d : Con} {best : List Int} {i : Nat} {c : Con} (hc : l[i]? = some c) (h1 : c.kind = 0) (h2 : 0 ≤ dd l n v c.a.toNat) (h3 : cexcl c d = true) (h : ¬ (best ≠ [] ∧ (best.length : Int) < dd l n d.a.toNat c.a.toNat + 2)) : istep l n v k d best i = if beforeB (cand l n i k c d) best = true then cand l n i k c d else best := by
  unfold istep
  rw [hc]
  simp only
  rw [if_neg, if_neg h]
  rintro (h4 | h4 | h4)
  · exact h4 h1
  · omega
  · rw [h3] at h4; cases h4

theorem kstep_skip {k : Nat} {bt : List Int × Ty} {d : Con} (hd : l[k]? = some d) (h : d.kind ≠ 0 ∨ dd l n v d.a.toNat < 0) : kstep l n v bt k = bt := by
  unfold kstep
  rw [hd]
  simp only
  rw [if_pos h]
theorem kstep_go {k : Nat} {bt : List Int × Ty} {d : Con} (hd : l[k]? = some d) (h1 : d.kind = 0) (h2 : 0 ≤ dd l n v d.a.toNat) : kstep l n v bt k = ((List.range k).foldl (istep l n v k d) bt.1, if d.tk ≠ 5 ∧ d.tk ≠ 6 then d.mark else bt.2) := by
  unfold kstep
  rw [hd]
  simp only
  rw [if_neg]
  rintro (h3 | h3)
  · exact h3 h1
  · omega
end

theorem ToR.form {wr : World} {n : Nat} {D : List Int} {lo : Nat} {s : Value} (h : ToR wr n D lo s) : ∃ A m c, s = .slice A m c ∧ (m = 0 ∨ (m = n ∧ ∃ g, A = some ⟨g, 0, none⟩ ∧ c = n ∧ IntsBlk wr g D ∧ lo ≤ g)) := by
  rcases h with ⟨A, c, rfl⟩ | ⟨g, rfl, h2, h3⟩
  · exact ⟨A, 0, c, rfl, .inl rfl⟩
  · exact ⟨_, n, n, rfl, .inr ⟨rfl, g, rfl, rfl, h2, h3⟩⟩

theorem OwnS.newsZ {w : World} {base : Nat} {l : List Int} {A : Option Addr} {m c : Nat} (h : OwnS w base 3 1 (.slice A m c) m (ivs l)) : ∀ j u, (ivs l)[j]? = some u → ∃ a, A = some a ∧ w.cell? (a.add j) = some u := by
  intro j u hj
  have hm : 0 < m := by
    have h1 := h.1
    have h2 := (List.getElem?_eq_some_iff.1 hj).1
    simp at h1 h2
    omega
  obtain ⟨g, off, cap, hv, _, _, _, _, hc⟩ := h.form hm
  cases hv
  exact ⟨_, rfl, by rw [Addr.add_lit]; exact hc j u hj⟩

/-- A chain is appended, the type of its class is none. -/
theorem ex_push {s1 s3 gc nc nb c13 : Nat} {A13 : Option Addr} {wp w4 : World} {u9 v' : Value} {chs : List (List Int)} {bs : List Int} {vals : List Value} {bt : Ty} {out0 : List Ty} {seen0 : List Bool} {D : List Int} {wb : World}
    (hV1 : OwnS wp (s1 + 1) 33 1 u9 nc vals) (hnc : chs.length = nc) (hV2 : ∀ (j : Nat) (ch : List Int), chs[j]? = some ch → ∃ x, vals[j]? = some x ∧ OwnS wp (s1 + 1) 3 1 x ch.length (ivs ch))
    (hO : OwnS wp s3 3 1 (.slice A13 nb c13) nb (ivs bs)) (hnb : bs.length = nb) (hown : OwnS w4 (s1 + 1) 33 1 v' (nc + 1) (vals ++ [.slice A13 nb c13]))
    (hgrow : (wp.alloc (.cells #[.slice A13 nb c13] 33)).grownBy w4 u9.ownBlock) (hty : Blk w4 (s3 + 1) 23 (tyVals bt))
    (hT : TysBlk wp s1 out0) (hB : BoolsBlk wp (s1 + 1 + 1) seen0) (hI : Blk wp gc 3 (D.map (Value.int .i64)).toArray) (hBr : Below s1 wb wp) (h13 : s1 + 3 ≤ s3) (hgc : gc < s3) (hsz : s3 + 2 ≤ wp.heap.size) :
    ChainsOwn (((w4.setCell ⟨s3 + 1, 0, none⟩ (.int .i64 0)).setCell ⟨s3 + 1, 1, none⟩ (.int .i64 0)).setCell ⟨s3 + 1, 2, none⟩ (.string ⟨#[]⟩)) (s1 + 1) v' (chs ++ [bs]) ∧
    Blk (((w4.setCell ⟨s3 + 1, 0, none⟩ (.int .i64 0)).setCell ⟨s3 + 1, 1, none⟩ (.int .i64 0)).setCell ⟨s3 + 1, 2, none⟩ (.string ⟨#[]⟩)) (s3 + 1) 23 (tyVals zeroTy) ∧
    TysBlk (((w4.setCell ⟨s3 + 1, 0, none⟩ (.int .i64 0)).setCell ⟨s3 + 1, 1, none⟩ (.int .i64 0)).setCell ⟨s3 + 1, 2, none⟩ (.string ⟨#[]⟩)) s1 out0 ∧
    BoolsBlk (((w4.setCell ⟨s3 + 1, 0, none⟩ (.int .i64 0)).setCell ⟨s3 + 1, 1, none⟩ (.int .i64 0)).setCell ⟨s3 + 1, 2, none⟩ (.string ⟨#[]⟩)) (s1 + 1 + 1) seen0 ∧
    Blk (((w4.setCell ⟨s3 + 1, 0, none⟩ (.int .i64 0)).setCell ⟨s3 + 1, 1, none⟩ (.int .i64 0)).setCell ⟨s3 + 1, 2, none⟩ (.string ⟨#[]⟩)) gc 3 (D.map (Value.int .i64)).toArray ∧
    Below s1 wb (((w4.setCell ⟨s3 + 1, 0, none⟩ (.int .i64 0)).setCell ⟨s3 + 1, 1, none⟩ (.int .i64 0)).setCell ⟨s3 + 1, 2, none⟩ (.string ⟨#[]⟩)) ∧
    s3 + 2 ≤ (((w4.setCell ⟨s3 + 1, 0, none⟩ (.int .i64 0)).setCell ⟨s3 + 1, 1, none⟩ (.int .i64 0)).setCell ⟨s3 + 1, 2, none⟩ (.string ⟨#[]⟩)).heap.size := by
  have hsA : Since (fun g => s1 ≤ g) wp w4 := ((Since.refl (fun g => s1 ≤ g) wp).alloc (.cells #[.slice A13 nb c13] 33)).grown hgrow (fun g hg => .inl (by have := (hV1.lt g hg).1; omega))
  have hsB : Since (fun g => g = s3 + 1) w4 (((w4.setCell ⟨s3 + 1, 0, none⟩ (.int .i64 0)).setCell ⟨s3 + 1, 1, none⟩ (.int .i64 0)).setCell ⟨s3 + 1, 2, none⟩ (.string ⟨#[]⟩)) := (((Since.refl (fun g => g = s3 + 1) w4).setCell (.inl rfl) _).setCell (.inl rfl) _).setCell (.inl rfl) _
  have hpush : ChainsOwn w4 (s1 + 1) v' (chs ++ [bs]) := by
    have h1 := hV1
    have h2 := hown
    rw [← hnc] at h1 h2
    have h3 := hO.mono (base' := s1 + 1) (by omega)
    have h4 : OwnS wp (s1 + 1) 3 1 (.slice A13 nb c13) bs.length (ivs bs) := by rw [hnb]; exact h3
    exact ChainsOwn.push h1 hV2 h4 (fun g hg hne => (hgrow.block g (by simp; omega) hne).trans (Below.heap_alloc wp _ g hg)) h2
  have hT4 : TysBlk w4 s1 out0 := (Blk.alloc hT _).grown hgrow (fun e1 => hV1.ne_blk hT (by decide) e1.symm)
  have hB4 : BoolsBlk w4 (s1 + 1 + 1) seen0 := (Blk.alloc hB _).grown hgrow (fun e1 => hV1.ne_blk hB (by decide) e1.symm)
  have hI4 : Blk w4 gc 3 (D.map (Value.int .i64)).toArray := (Blk.alloc hI _).grown hgrow (fun e1 => hV1.ne_blk hI (by decide) e1.symm)
  have hz1 := hsA.size
  have hz2 := hsB.size
  refine ⟨hpush.since2 hsB (fun g hg => .inr ⟨23, tyVals bt, by rw [hg]; exact hty, by decide, by decide⟩), hty.set3 _ _ _, Blk.since hT4 hsB (by omega), Blk.since hB4 hsB (by omega), Blk.since hI4 hsB (by omega), hBr.trans ((hsA.step hsB (fun g hg => .inl (by omega))).toBelow (by omega) (fun g hg => hg)), by omega⟩

end Go.Proofs.Ytpdimehoepfgaaa
