/- ReportOrder: the law returns true for every source and every diagnostics. Part 10 of 17. -/
import Derived.Test.YtinpopjnnljkhaaGreatDoorOrd09
/- A chain of scopes: all variables, walked. -/
namespace Go.Proofs.YtinpopjnnljkhaaGreatDoor
open Go.RowKit

def unInt : Value → Int
  | .int _ z => z
  | _ => 0
theorem ivs_perm {a b : List Int} (h : (ivs a).Perm (ivs b)) : a.Perm b := by
  have := h.map unInt
  simpa [ivs, List.map_map, Function.comp_def, unInt] using this
theorem OwnS.obj {w : World} {base : Nat} {e : TypeId} {size : Nat} {v : Value} {n : Nat} {xs : List Value} (h : OwnS w base e size v n xs) : ∀ g, v.ownBlock = some g → ∃ cur, w.heap[g]? = some (.cells cur e (0, 0)) := by
  intro g hv
  rcases h.2 with ⟨rfl, _⟩ | ⟨g1, off1, cap1, cur1, rfl, _, hg1, _⟩
  · cases hv
  · simp [Value.ownBlock] at hv
    subst hv
    exact ⟨cur1, hg1⟩
theorem AMap.not_own {K : Type} [DecidableEq K] {KK : KeyK K} {w : World} {r : Nat} {m : List (K × Value)} {base : Nat} {e : TypeId} {size : Nat} {v : Value} {n : Nat} {xs : List Value} (h : AMap KK w r m) (ho : OwnS w base e size v n xs) : v.ownBlock ≠ some r := by
  intro hv
  obtain ⟨cur, hg⟩ := ho.obj r hv
  obtain ⟨es, clock, h1, _⟩ := h
  rw [h1] at hg
  cases hg
theorem AIter.not_own {K : Type} [DecidableEq K] {KK : KeyK K} {w : World} {r b : Nat} {m : List (K × Value)} {left : List (Value × Value)} {base : Nat} {e : TypeId} {size : Nat} {v : Value} {n : Nat} {xs : List Value} (h : AIter KK w r b m left) (ho : OwnS w base e size v n xs) : v.ownBlock ≠ some b := by
  intro hv
  obtain ⟨cur, hg⟩ := ho.obj b hv
  obtain ⟨es, clock, seen, c0, h1, h2, h3, h4, h5, _⟩ := h
  rw [h5] at hg
  cases hg
theorem AIter.grown {K : Type} [DecidableEq K] {KK : KeyK K} {w w' : World} {r b : Nat} {m : List (K × Value)} {left : List (Value × Value)} (h : AIter KK w r b m left) {row : Option Nat} (hg : w.grownBy w' row) (h1 : row ≠ some r) (h2 : row ≠ some b) : AIter KK w' r b m left := by
  have hr := h.map_.lt
  have hb : b < w.heap.size := by
    obtain ⟨es, clock, seen, c0, _, _, _, _, h5, _⟩ := h
    exact (Array.getElem?_eq_some_iff.1 h5).1
  exact h.keep (hg.block r hr (Ne.symm h1)) (hg.block b hb (Ne.symm h2))
theorem AIter.alloc {K : Type} [DecidableEq K] {KK : KeyK K} {w : World} {r b : Nat} {m : List (K × Value)} {left : List (Value × Value)} (h : AIter KK w r b m left) (o : Obj) : AIter KK (w.alloc o) r b m left :=
  h.grown (World.grownBy_alloc w o none) (by simp) (by simp)

abbrev Sco := List (List (ByteArray × Nat))
def layN (l : List (ByteArray × Nat)) : List (ByteArray × Value) := l.map fun x => (x.1, Value.int .i64 (x.2 : Int))
def nat2 (l : List (ByteArray × Nat)) : List Int := l.map fun x => (x.2 : Int)
def allN (s : Sco) : List Int := s.flatMap nat2
/-- The scopes in memory. -/
def ScL (w : World) : Sco → Option Addr → Prop
  | [], p => p = none
  | l :: s, p => ∃ b o m p', p = some ⟨b, o, none⟩ ∧ b < w.heap.size ∧ w.cell? ⟨b, o, none⟩ = some (.pointer p') ∧ w.cell? ⟨b, o + 1, none⟩ = some (.map (some m)) ∧ AMap strK w m (layN l) ∧ ScL w s p'
theorem ScL.of {w : World} {v : Value} {L : List Nat} (h : ScopeAt w v L) : ∃ (s : Sco) (p : Option Addr), v = .pointer p ∧ ScL w s p ∧ allN s = L.map fun n : Nat => (n : Int) := by
  induction h with
  | nil => exact ⟨[], none, rfl, rfl, rfl⟩
  | @cons b o par m vs L h0 h1 hm t ih =>
    obtain ⟨s, p, rfl, h2, h3⟩ := ih
    obtain ⟨l, cur, c, g1, g2, g3, g4, rfl⟩ := hm
    refine ⟨l :: s, _, rfl, ⟨b, o, m, p, rfl, ?_, h0, h1, ⟨cur, c, g1, ?_, g3, g4⟩, h2⟩, ?_⟩
    · rcases Nat.lt_or_ge b w.heap.size with hb | hb
      · exact hb
      · have : w.heap[b]? = none := Array.getElem?_eq_none hb
        simp [World.cell?, this] at h0
    · rw [g2]; simp [layN, strK, List.map_map, Function.comp_def]
    · have e : allN (l :: s) = nat2 l ++ allN s := rfl
      rw [e, h3, List.map_append]
      simp [nat2, List.map_map, Function.comp_def]

set_option maxHeartbeats 2000000 in
set_option maxRecDepth 100000 in
theorem all_any (s : Sco) (p : Option Addr) (w : World) (hs : ScL w s p) (hn : (allN s).length ≤ 1000000) :
    Calls Tryz.prog 443 #[.pointer p] w fun e w' => (∃ v zs, e = .returned v ∧ zs.Perm (allN s) ∧ OwnS w' w.heap.size 3 1 v (allN s).length (ivs (zs.mergeSort fun x y => decide (x ≤ y))) ∧ (zs = [] → v = .slice none 0 0)) ∧ Below w.heap.size w w' := by
  obtain ⟨i0, hi0, hz0, hz1, hz2⟩ := info_parts int_info
  have HN := Lib.hid hn
  have HS := Lib.hid hs
  clear hn hs
  go_enter Tryz.func443, Tryz.ntmps443
  go_wp2_with fail
  go_loopg [3, 4] s.length (fun gk s3 s4 wr => ∃ (s1 s2 : Sco) (p2 : Option Addr) (A : Option Addr) (n c : Nat) (zs : List Int), gk = s2.length ∧ s = s1 ++ s2 ∧ s4 = .pointer p2 ∧ s3 = .slice A n c ∧ Hid (ScL w s2 p2) ∧ Hid (OwnS wr w.heap.size 3 1 (.slice A n c) n (ivs zs)) ∧ Hid (zs.Perm (allN s1)) ∧ Hid (Below w.heap.size w wr) ∧ Hid (zs = [] → A = none ∧ n = 0 ∧ c = 0))
  case atStart => exact ⟨[], s, p, none, 0, 0, [], rfl, rfl, rfl, rfl, HS, Lib.hid (OwnS.nil _ _ _ _), Lib.hid List.Perm.nil, Lib.hid (Below.refl _ _), Lib.hid fun _ => ⟨rfl, rfl, rfl⟩⟩
  case round =>
    obtain ⟨s1, s2, p2, A, n, c, zs, hgk, hss, rfl, rfl, HS2, HO, HP, HB, HE⟩ := hrel
    cases s2 with
    | nil =>
      have hp2 : p2 = none := HS2.out
      subst hp2
      have hse : s = s1 := by simpa using hss
      have hnz : zs.length = n := by simpa using HO.out.1
      have hnl : n = (allN s).length := by rw [← hnz, hse]; exact HP.out.length_eq
      have HNL := Lib.hid hnl
      have hcall := Sort_any (.slice A n c) w.heap.size n zs wr HO.out (by have := HN.out; omega)
      have HC := Lib.hid hcall
      have HSE := Lib.hid hse
      clear hcall hnl hnz hse hss
      go_wp2_with fail
      refine HC.out.mono ?_
      rintro e w5 ⟨rfl, ho5, hg5⟩
      have hb5 : Below w.heap.size w w5 := HB.out.trans (((Since.refl (fun g => w.heap.size ≤ g) wr).grown hg5 (fun g hg => .inl (HO.out.lt g hg).1)).toBelow HB.out.size (fun g hg => hg))
      have HO5 := Lib.hid ho5
      have HB5 := Lib.hid hb5
      clear ho5 hb5 hg5
      go_wp2_with fail
      go_ret
      refine ⟨⟨_, zs, rfl, by rw [HSE.out]; exact HP.out, by have := HO5.out; rw [HNL.out] at this ⊢; exact this, fun h0 => ?_⟩, HB5.out⟩
      obtain ⟨e1, e2, e3⟩ := HE.out h0
      rw [e1, e2, e3]
      rfl
    | cons l s2 =>
      obtain ⟨b, o, m, p', rfl, hbw, hc0, hc1, hm0, hs3⟩ := HS2.out
      have hB := HB.out
      have hm := hm0.below hB hm0.lt
      have c0 := (hB.cell (p := ⟨b, o, none⟩) hbw).trans hc0
      have c1 := (hB.cell (p := ⟨b, o + 1, none⟩) hbw).trans hc1
      obtain ⟨w1, hr1, hit, hb1, hsz1⟩ := run_range_am (P := Tryz.prog) (t := 334) (kt := 9) (et := 3) Tryz.underlying334 hm
      have hmw := hm0.lt
      have HIT := Lib.hid hit
      have hO1 := HO.out.below hb1 (fun g hg => (HO.out.lt g hg).2)
      have HO1 := Lib.hid hO1
      have HB1 := Lib.hid (hB.trans (hb1.mono hB.size))
      have HC0 := Lib.hid hc0
      have HS3 := Lib.hid hs3
      have HSZ : Hid (w.heap.size ≤ wr.heap.size) := Lib.hid hB.size
      have HTOT : Hid (n + l.length ≤ 1000000) := Lib.hid (by
        have h5 := HN.out
        rw [hss] at h5
        unfold allN nat2 at h5
        simp only [List.flatMap_append, List.flatMap_cons, List.length_append, List.length_map] at h5
        have h6 := HP.out.length_eq
        unfold allN nat2 at h6
        have h7 : zs.length = n := by simpa using HO.out.1
        omega)
      clear hit hb1 hB hs3 hm HS2 hO1 hm0 hc0 hc1
      go_wp2_with fail
      obtain ⟨wo, hwo⟩ : ∃ wo : World, wo = wr := ⟨_, rfl⟩
      subst hwo
      obtain ⟨go, hgo⟩ : ∃ go : Nat, go = gk := ⟨_, rfl⟩
      subst hgo
      obtain ⟨it, hite⟩ : ∃ it, wo.heap.size = it := ⟨_, rfl⟩
      rw [hite] at HIT HSZ ⊢
      go_loopg [3] l.length (fun gk s3 wr => ∃ (A' : Option Addr) (n' c' : Nat) (zs' : List Int) (left : List (Value × Value)), gk = left.length ∧ s3 = .slice A' n' c' ∧ Hid (AIter strK wr m it (layN l) left) ∧ Hid (OwnS wr w.heap.size 3 1 (.slice A' n' c') n' (ivs zs')) ∧ Hid ((ivs zs' ++ left.map (·.2)).Perm (ivs zs ++ (layN l).map (·.2))) ∧ Hid (Below w.heap.size w wr) ∧ Hid (zs' = [] → A' = none ∧ n' = 0 ∧ c' = 0))
      case atStart => exact ⟨A, n, c, zs, _, by simp [layN], rfl, HIT, HO1, Lib.hid (by simp [layN, List.map_map, Function.comp_def]), HB1, HE⟩
      case round =>
        obtain ⟨A', n', c', zs', left, hgk', rfl, HI, HO', HP', HB', HE'⟩ := hrel
        rcases run_next_am (P := Tryz.prog) 0 HI.out (by have := HSZ.out; omega) with ⟨hl0, hnx⟩ | ⟨kv, vv, left', w2, hperm, hmem, hnx, hit2, hsn2, hsz2, hent⟩
        · subst hl0
          have c0 := (HB'.out.cell (p := ⟨b, o, none⟩) hbw).trans HC0.out
          have HP2 : Hid (zs'.Perm (allN (s1 ++ [l]))) := Lib.hid (by
            have h5 := HP'.out
            simp only [List.map_nil, List.append_nil] at h5
            have h6 : (layN l).map (·.2) = ivs (nat2 l) := by simp [layN, nat2, List.map_map, Function.comp_def]
            rw [h6] at h5
            have h7 := ivs_perm (b := zs ++ nat2 l) (by simpa [ivs] using h5)
            unfold allN
            simp only [List.flatMap_append, List.flatMap_cons, List.flatMap_nil, List.append_nil]
            exact h7.trans (HP.out.append_right _))
          go_wp2_with fail
          go_roundg (go - 1)
          case measure => simp at hgk; omega
          case rel => exact ⟨s1 ++ [l], s2, p', A', n', c', zs', by simp at hgk; omega, by simp [hss], rfl, rfl, HS3, HO', HP2, HB', HE'⟩
        · obtain ⟨y, hy⟩ : ∃ y : Int, vv = .int .i64 y := by
            simp only [layN, List.map_map, List.mem_map, Function.comp_def, Prod.mk.injEq] at hmem
            obtain ⟨q, _, _, h5⟩ := hmem
            exact ⟨q.2, h5.symm⟩
          subst hy
          have hO2 := HO'.out.since hsn2 (fun g hg h5 => HI.out.not_own HO'.out (by rw [hg, h5]))
          have HO2 := Lib.hid hO2
          have HIT2 := Lib.hid hit2
          have HB2 : Hid (Below w.heap.size w w2) := Lib.hid (HB'.out.trans (hsn2.toBelow (by have := HB'.out.size; omega) (fun g hg => by have := HSZ.out; omega)))
          have HPM := Lib.hid hperm
          have hn' : n' ≤ 1000000 := by
            have h5 := HP'.out.length_eq
            have h6 : zs'.length = n' := by simpa using HO'.out.1
            have h7 : zs.length = n := by simpa using HO.out.1
            have h8 := HTOT.out
            simp [layN] at h5
            omega
          clear hmem hperm hit2 hsn2 hO2 hsz2
          go_wp2_with (at_builtin; go_must (refine wpList_append_S _ rfl (.tmp 23) (.tmp 25) _ rfl w.heap.size 3 i0 _ 1 8 Tryz.underlying52 hi0 hz0 hz1 hz2 rfl (.slice A' n' c') n' (ivs zs') rfl (HO2.out.alloc _) ⟨w2.heap.size, 0, none⟩ 1 1 [.int .i64 y] rfl rfl (news_one _ _ _ (by go_simp)) (by simp [Value.oneCell']) (by simp only [maxLen]; omega) (by omega) (by have := HB2.out.size; simp; omega) ?_); intro vn w6 hown hgrow hat; obtain ⟨A6, c6, hvn, -, -⟩ := hown.shape; subst hvn; have HOWN := Lib.hid hown; have HGROW := Lib.hid hgrow; clear hown hgrow hat)
          have hrow := HO2.out.lt
          have hI6 : AIter strK w6 m it (layN l) left' := (HIT2.out.alloc _).grown HGROW.out (HIT2.out.map_.not_own HO2.out) (HIT2.out.not_own HO2.out)
          have hB6 : Below w.heap.size w w6 := (HB2.out.trans ((below_alloc _ _).mono HB2.out.size)).trans (((Since.refl (fun g => w.heap.size ≤ g) _).grown HGROW.out (fun g hg => .inl (hrow g hg).1)).toBelow (by have := HB2.out.size; simp; omega) (fun g hg => hg))
          go_roundg (gk - 1)
          case measure => have := HPM.out.length_eq; simp at this; omega
          case rel =>
            refine ⟨A6, n' + 1, c6, zs' ++ [y], left', by have := HPM.out.length_eq; simp at this; omega, rfl, Lib.hid hI6, Lib.hid (by simpa [ivs] using HOWN.out), Lib.hid ?_, Lib.hid hB6, Lib.hid (fun h0 => by simp at h0)⟩
            refine List.Perm.trans ?_ HP'.out
            have h5 := HPM.out.map (·.2)
            simp only [List.map_cons] at h5
            simp only [ivs, List.map_append, List.map_cons, List.map_nil, List.append_assoc, List.singleton_append]
            exact h5.symm.append_left _

end Go.Proofs.YtinpopjnnljkhaaGreatDoor
/- The hooks' contracts: Count, Repeat, Join. -/
namespace Go.Proofs.YtinpopjnnljkhaaGreatDoor
open Go.RowKit

theorem repL_eq (s : List UInt8) : ∀ n, repL n s = Lib.repeatL s n
  | 0 => rfl
  | n + 1 => by rw [repL_succ, repL_eq s n]; rfl
theorem hk_count : ExOk Tryz.prog 58 countX :=
  ex_count ⟨_, Tryz.func58, by kernel_rfl, by kernel_rfl⟩ fun s c w => Tryz.strings_Count_one s c w
theorem hk_repeat : ExOk Tryz.prog 31 repeatX :=
  ex_repeat ⟨_, Tryz.func31, by kernel_rfl, by kernel_rfl⟩ fun s n w hn hb => by
    rw [repL_eq]
    exact Tryz.strings_Repeat s n w (by omega) (by rw [Lib.size_eq]; omega)
theorem hk_join : ExOk Tryz.prog 116 joinX :=
  ex_join ⟨_, Tryz.func116, by kernel_rfl, by kernel_rfl⟩ (fun sep w => (Tryz.strings_Join_none none 0 sep w).mono fun e w' ⟨h1, h2⟩ => ⟨h1, by rw [h2]; exact Below.refl _ _⟩)
    fun bk o c xs sep w h1 h2 h3 h4 h5 => Tryz.strings_Join bk o c xs sep w h1 h2 (by omega) h4 (by unfold Lib.join; omega)
end Go.Proofs.YtinpopjnnljkhaaGreatDoor
