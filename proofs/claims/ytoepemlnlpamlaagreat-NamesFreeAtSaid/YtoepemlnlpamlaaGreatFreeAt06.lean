/- The law NamesFreeAt holds: for every text and every number the law returns true, and its arguments read as before. No condition. Part 6: Par4 Par5 Par6. -/
import Derived.Test.YtoepemlnlpamlaaGreatFreeAt05
namespace Go.Proofs.YtoepemlnlpamlaaGreat
set_option maxRecDepth 100000
set_option maxHeartbeats 4000000
open Go.RowKit
def PTo (E:PE) (w:World) (v:PV) (st:PS) (w':World):Prop:=∃ v',v'.st=st∧PW w' E v'∧PM E w v w' v'
theorem accept_any (E:PE) (hE:E.Ok) (v:PV) (x:Bytes) (w:World) (hpw:PW w E v) :
 Calls Tryz.prog 128 #[.pointer (some ⟨E.gp,0,none⟩),.string (mkS x)] w fun e w'=>e = .returned (.bool (isM E.bs E.l v.st x))∧PTo E w v (acceptM E.bs E.l v.st x) w':=by
 have his:=is_any E hE v x w hpw;unfold acceptM
 obtain⟨b,hb⟩:∃ b,isM E.bs E.l v.st x=b:=⟨_,rfl⟩
 rw[hb]at his ⊢;have HIS:=kH his;have HB:=kH hb;clear his hb
 cases b
 ·go_enter Tryz.func128,Tryz.ntmps128
  go_wp2_with fail
  refine HIS.out.mono ?_;rintro e w1 ⟨rfl,hb1⟩
  go_wp2_with fail
  go_ret
  exact⟨rfl,v,rfl,hpw.below hb1,PM.of_below hb1⟩
 ·go_enter Tryz.func128,Tryz.ntmps128
  go_wp2_with fail
  refine HIS.out.mono ?_;rintro e w1 ⟨rfl,hb1⟩
  go_wp2_with fail
  refine(read_any E hE v w1 (hpw.below hb1) (isM_kind HB.out)).mono ?_;rintro e w2 ⟨rfl,h2,hm2⟩
  go_wp2_with fail
  go_ret
  exact⟨rfl,_,rfl,h2,(PM.of_below hb1).trans hm2⟩
theorem expect_any (E:PE) (hE:E.Ok) (v:PV) (x:Bytes) (w:World) (hpw:PW w E v) :
 Calls Tryz.prog 126 #[.pointer (some ⟨E.gp,0,none⟩),.string (mkS x)] w fun e w'=>e = .returned (.bool (isM E.bs E.l v.st x))∧PTo E w v (expectM E.bs E.l v.st x) w':=by
 have hac:=accept_any E hE v x w hpw;unfold acceptM at hac;unfold expectM
 obtain⟨b,hb⟩:∃ b,isM E.bs E.l v.st x=b:=⟨_,rfl⟩
 rw[hb]at hac ⊢;have HAC:=kH hac;clear hac hb
 cases b
 ·go_enter Tryz.func126,Tryz.ntmps126
  go_wp2_with fail
  refine HAC.out.mono ?_;rintro e w1 ⟨rfl,v1,hv1,h1,hm1⟩
  have hst:v1.st=v.st:=by simpa using hv1
  have HST:=kH hst;clear hv1 hst
  go_wp2_with fail
  refine(report_any E hE v1 4 x w1 h1).mono ?_;rintro e w2 ⟨⟨u,rfl⟩,v2,hv2,h2,hm2⟩;have HV2:=kH hv2;clear hv2
  go_wp2_with fail
  go_ret
  exact⟨rfl,v2,by rw[HV2.out,HST.out],h2,hm1.trans hm2⟩
 ·go_enter Tryz.func126,Tryz.ntmps126
  go_wp2_with fail
  refine HAC.out.mono ?_;rintro e w1 ⟨rfl,v1,hv1,h1,hm1⟩;have HST:=kH hv1;clear hv1
  go_wp2_with fail
  go_ret
  exact⟨rfl,v1,HST.out,h1,hm1⟩
theorem name_any (E:PE) (hE:E.Ok) (v:PV) (w:World) (hpw:PW w E v) :
 Calls Tryz.prog 125 #[.pointer (some ⟨E.gp,0,none⟩)] w fun e w'=>e = .returned (.string (mkS (nameT E.bs E.l v.st)))∧PTo E w v (nameP E.l v.st) w':=by
 have hkd:=kind_any E hE v w hpw;unfold nameT nameP
 obtain⟨k,hk⟩:∃ x,kindM E.l v.st=x:=⟨_,rfl⟩
 rw[hk]at hkd ⊢;have HKD:=kH hkd;have HK:=kH hk;clear hkd hk
 by_cases h0:k=0
 ·subst h0
  go_enter Tryz.func125,Tryz.ntmps125
  go_wp2_with fail
  refine HKD.out.mono ?_;rintro e w1 ⟨rfl,hb1⟩
  go_wp2_with fail
  refine(read_any E hE v w1 (hpw.below hb1) (by rw[HK.out];decide)).mono ?_;rintro e w2 ⟨rfl,h2,hm2⟩
  go_wp2_with fail
  go_ret
  exact⟨rfl,_,rfl,h2,(PM.of_below hb1).trans hm2⟩
 ·have hki:((k:Int) == 0)=false:=by simp;omega
  have hkn:(k == 0)=false:=by simp[h0]
  rw[if_neg h0,if_neg h0];clear h0
  go_enter Tryz.func125,Tryz.ntmps125
  go_wp2_with fail
  refine HKD.out.mono ?_;rintro e w1 ⟨rfl,hb1⟩
  go_wp2_with fail
  refine(report_any E hE v 4 [110,97,109,101] w1 (hpw.below hb1)).mono ?_;rintro e w2 ⟨⟨u,rfl⟩,v2,hv2,h2,hm2⟩;have HV2:=kH hv2;clear hv2
  go_wp2_with fail
  go_ret
  exact⟨rfl,v2,HV2.out,h2,(PM.of_below hb1).trans hm2⟩
theorem KidsOwn.first {w:World} {lo:Nat} {A:Option Addr} {n c:Nat} {t:Tree} {ts:List Tree} (h:KidsOwn w lo (.slice A n c) n (t :: ts)):∃ b off,A=some ⟨b,off,none⟩∧b < w.heap.size∧w.cell? ⟨b,off+2,none⟩=some (.int .i64 t.at_):=by
 obtain⟨vals,h1,h2,h3⟩:=h;obtain⟨v,vs,rfl,hv,-⟩:=h2
 have hn:0 < n:=by rw[← h3];simp
 obtain⟨g,off,cap,hs,-,-,-,hlt,hc⟩:=h1.form hn
 cases hs
 refine⟨g,off,rfl,hlt,?_⟩
 cases t with
 | node k x a e kids =>
  obtain⟨A',c',vals',rfl,-⟩:=hv;exact hc 2 _ rfl
theorem node_any (E:PE) (hE:E.Ok) (v:PV) (w:World) (hpw:PW w E v) (first:Nat) (kind:Int) (t:Bytes) (lo:Nat) (A:Option Addr) (n c:Nat) (ts:List Tree) (hk:KidsOwn w lo (.slice A n c) n ts) :
 Calls Tryz.prog 71 #[.pointer (some ⟨E.gp,0,none⟩),.int .i64 (first:Int),.int .i64 kind,.string (mkS t),.slice A n c] w fun e w'=>e = .returned (.agg #[.int .i64 kind,.string (mkS t),.int .i64 (nodeAt E.l v.st first ts),.int .i64 (v.st.last:Int),.slice A n c])∧Below w.heap.size w w':=by
 obtain⟨b,off,hEA,hb,-,c1,c2,c3,-,-,-,-,-⟩:=hpw.open hE;have hgl:=hpw.blk.lt
 obtain⟨a1,ha1⟩:∃ x:Int,(if first < v.st.k then ((tkM E.l first).at_:Int) else (v.st.last:Int))=x:=⟨_,rfl⟩
 obtain⟨a2,ha2⟩:∃ x,nodeAt E.l v.st first ts=x:=⟨_,rfl⟩
 have hKS:∀ w':World,Below w.heap.size w w'→w'.cell? ⟨E.gp,1,none⟩=some (.slice (some ⟨b,off,none⟩) E.n E.c)∧w'.cell? ⟨E.gp,2,none⟩=some (.int .i64 (v.st.k:Int))∧w'.cell? ⟨E.gp,3,none⟩=some (.int .i64 (v.st.last:Int)):=fun w' hb'=>⟨(hb'.cell (p:=⟨E.gp,_,none⟩) hgl).trans c1,(hb'.cell (p:=⟨E.gp,_,none⟩) hgl).trans c2,(hb'.cell (p:=⟨E.gp,_,none⟩) hgl).trans c3⟩
 have HKS:=kH hKS;have HA1:=kH ha1;have HA2:=kH ha2;have HK:=kH hk;rw[ha2];clear hKS ha1 ha2 hk
 go_enter Tryz.func71,Tryz.ntmps71
 go_wp2_with fail
 generalize hW1:w.alloc (.cells #[.int .i64 0,.string ⟨#[]⟩,.int .i64 0,.int .i64 0,.slice none 0 0] 24)=W1
 have hb1:Below w.heap.size w W1:=by rw[← hW1];(repeat (first | exact Below.refl _ _ | assumption | refine Below.trans ?_ (Below.mono (by assumption) (by first | omega | (simp;done) | (simp;omega))) | refine Below.alloc ?_ (by first | omega | (simp;done) | (simp;omega)) _ | refine Below.setCell ?_ (by first | omega | (simp;done) | (simp;omega)) _ | refine Below.drew ?_ | refine below_drewN ?_ _))
 have hT1:Blk W1 w.heap.size 24 #[.int .i64 0,.string ⟨#[]⟩,.int .i64 0,.int .i64 0,.slice none 0 0]:=by rw[← hW1];exact Blk.new w _ _
 have hs1:W1.heap.size=w.heap.size+1:=by rw[← hW1];simp
 have hBd:Below w.heap.size w W1.drew:=hb1.drew;clear hW1
 go_region_held3 (fun w'=>w'.cell? ⟨E.gp,1,none⟩=some (.slice (some ⟨b,off,none⟩) E.n E.c)∧w'.cell? ⟨E.gp,2,none⟩=some (.int .i64 (v.st.k:Int))∧w'.cell? ⟨E.gp,3,none⟩=some (.int .i64 (v.st.last:Int))) ((refine HKS.out _ ?_;(repeat (first | exact Below.refl _ _ | assumption | refine Below.trans ?_ (Below.mono (by assumption) (by first | omega | (simp;done) | (simp;omega))) | refine Below.alloc ?_ (by first | omega | (simp;done) | (simp;omega)) _ | refine Below.setCell ?_ (by first | omega | (simp;done) | (simp;omega)) _ | refine Below.drew ?_ | refine below_drewN ?_ _)))) (fail)
 generalize hW2:(W1.alloc (.cells #[.int .i64 kind,.string (mkS t),.int .i64 (v.st.last:Int),.int .i64 (v.st.last:Int),.slice A n c] 24)).drew=W2
 have hb2:Below W1.heap.size W1 W2:=by rw[← hW2];(repeat (first | exact Below.refl _ _ | assumption | refine Below.trans ?_ (Below.mono (by assumption) (by first | omega | (simp;done) | (simp;omega))) | refine Below.alloc ?_ (by first | omega | (simp;done) | (simp;omega)) _ | refine Below.setCell ?_ (by first | omega | (simp;done) | (simp;omega)) _ | refine Below.drew ?_ | refine below_drewN ?_ _))
 have hN2:Blk W2 W1.heap.size 24 #[.int .i64 kind,.string (mkS t),.int .i64 (v.st.last:Int),.int .i64 (v.st.last:Int),.slice A n c]:=by rw[← hW2];exact(Blk.new W1 _ _).drew
 have hR2:Blk W2 w.heap.size 24 #[.int .i64 0,.string ⟨#[]⟩,.int .i64 0,.int .i64 0,.slice none 0 0]:=hT1.below hb2 hT1.lt;have hbw2:Below w.heap.size w W2:=hb1.trans (hb2.mono (by omega));rw[hs1]at hN2;have hs2:=hN2.lt;have hp2:=hpw.below hbw2;have H2:=kH hp2;have d1:=(hbw2.cell (p:=⟨E.gp,1,none⟩) hgl).trans c1;have d2:=(hbw2.cell (p:=⟨E.gp,2,none⟩) hgl).trans c2;have n2:=hN2.cell 2;have f2:=hN2.frozen 2;have HN2:=kH hN2;have HR2:=kH hR2;have HBW2:=kH hbw2;have hk2:=hpw.at_;clear hW2 hN2 hR2 hbw2 hb2 hs1 HKS hT1 hb1 hBd c1 c2 c3 hpw hp2
 obtain⟨lk,hlk⟩:∃ lk,v.st.k=lk:=⟨_,rfl⟩
 obtain⟨la,hla⟩:∃ la,v.st.last=la:=⟨_,rfl⟩
 rw[hlk]at d2 hk2;have HLK:=kH hlk;have HLA:=kH hla
 go_upto_if 29 with fail
 clear hlk hla
 go_cut [] (fun wx=>Blk wx (w.heap.size+1) 24 #[.int .i64 kind,.string (mkS t),.int .i64 a1,.int .i64 (la:Int),.slice A n c]∧Since (fun g=>g=w.heap.size+1) W2 wx)
 case first =>
  by_cases hlt:first < lk
  ·have hlti:(first:Int) < (lk:Int):=by omega
   have hfn:(first:Int) < E.n:=by omega
   obtain⟨b',off',hA',hb',-,-,t2,-⟩:=H2.out.tok hE (k:=first) (by omega);rw[hEA]at hA'
   cases hA'
   have hat:((tkM E.l first).at_:Int)=a1:=by rw[← HA1.out,if_pos (by rw[HLK.out];exact hlt)]
   rw[hat]at t2
   have hfb:((w.heap.size+1 == E.gp)=false):=by simp;omega
   clear hat
   go_wp2_with fail
   go_meet
   exact⟨by have:=HN2.out.set_ 2 (.int .i64 a1);simpa [HLA.out] using this,(Since.refl (fun g=>g=w.heap.size+1) W2).setCell (.inl rfl) _⟩
  ·have hlti:¬ (first:Int) < (lk:Int):=by omega
   have hat:(la:Int)=a1:=by rw[← HA1.out,if_neg (by rw[HLK.out];exact hlt),HLA.out]
   have HAT:=kH hat;clear hat
   go_wp2_with fail
   go_meet
   exact⟨by have:=HN2.out;rw[HLA.out]at this;rw[← HAT.out];exact this,Since.refl _ _⟩
 case rest =>
  obtain⟨hN3,hS3⟩:=hcut;have hb3:Below w.heap.size w wc:=HBW2.out.trans (hS3.toBelow (by omega) (by intro g hg;omega));have hs3:=hS3.size;have hK3:=HK.out.keeps (KeepsN.of_below hb3);have hR3:=HR2.out.since hS3 (by omega);have HR3:=kH hR3;have HN3:=kH hN3;have HB3:=kH hb3;have n0:=hN3.cell 0;have n1:=hN3.cell 1;have n2:=hN3.cell 2;have n3:=hN3.cell 3;have n4:=hN3.cell 4;have f2:=hN3.frozen 2;have r0:=hR3.cell 0;have r1:=hR3.cell 1;have r2:=hR3.cell 2;have r3:=hR3.cell 3;have r4:=hR3.cell 4;have g0:=hR3.frozen 0;have g1:=hR3.frozen 1;have g2:=hR3.frozen 2;have g3:=hR3.frozen 3;have g4:=hR3.frozen 4
  obtain⟨wz,rfl⟩:∃ wz:World,wz=wc:=⟨_,rfl⟩
  clear hS3 hb3 hR3 hN3
  cases ts with
  | nil =>
   have hn0:n=0:=by
    obtain⟨_,_,_,h3⟩:=hK3;exact h3.symm
   subst hn0
   have ha12:a1=a2:=by
    rw[← HA2.out,← HA1.out];rfl
   have HA:=kH ha12
   have hg1:decide ((0:Int) < ((0:Nat):Int))=false:=by simp
   clear ha12 hK3
   go_wp2_with fail
   go_quiet (fail)
   go_wp2_with fail
   have ha:=HA.out;subst ha;rw[HLA.out];refine bodyPost_ret (v:=.agg #[.int .i64 kind,.string (mkS t),.int .i64 a1,.int .i64 (la:Int),.slice A 0 c]) (by simp[results,Tryz.results71,go_sem, *]) rfl ⟨rfl,(((((below_drewN HB3.out _).setCell (Nat.le_refl _) _).setCell (Nat.le_refl _) _).setCell (Nat.le_refl _) _).setCell (Nat.le_refl _) _).setCell (Nat.le_refl _) _⟩
  | cons t0 ts =>
   obtain⟨kb,koff,rfl,hkb,hka⟩:=hK3.first
   have hn0:0 < n:=by
    obtain⟨_,_,_,h3⟩:=hK3;rw[← h3];simp
   have hg1:decide ((0:Int) < (n:Int))=true:=decide_eq_true (by omega)
   have hn0i:(0:Int) < (n:Int):=by omega
   have ha12:(if t0.at_ < a1 then t0.at_ else a1)=a2:=by
    rw[← HA2.out,← HA1.out];rfl
   have HA:=kH ha12;clear ha12 hK3
   by_cases hlt:t0.at_ < a1
   ·have hlb:decide (t0.at_ < a1)=true:=decide_eq_true hlt
    go_wp2_with fail
    go_quiet (fail)
    go_wp2_with fail
    have ha:=HA.out;rw[if_pos hlt]at ha;subst ha;rw[HLA.out];refine bodyPost_ret (v:=.agg #[.int .i64 kind,.string (mkS t),.int .i64 t0.at_,.int .i64 (la:Int),.slice (some ⟨kb,koff,none⟩) n c]) (by simp[results,Tryz.results71,go_sem, *]) rfl ⟨rfl,((((((below_drewN HB3.out _).setCell (p:=⟨w.heap.size+1,2,none⟩) (Nat.le_succ _) _).setCell (Nat.le_refl _) _).setCell (Nat.le_refl _) _).setCell (Nat.le_refl _) _).setCell (Nat.le_refl _) _).setCell (Nat.le_refl _) _⟩
   ·have hlb:decide (t0.at_ < a1)=false:=decide_eq_false hlt
    go_wp2_with fail
    go_quiet (fail)
    go_wp2_with fail
    have ha:=HA.out;rw[if_neg (by omega)]at ha;subst ha;rw[HLA.out];refine bodyPost_ret (v:=.agg #[.int .i64 kind,.string (mkS t),.int .i64 a1,.int .i64 (la:Int),.slice (some ⟨kb,koff,none⟩) n c]) (by simp[results,Tryz.results71,go_sem, *]) rfl ⟨rfl,(((((below_drewN HB3.out _).setCell (Nat.le_refl _) _).setCell (Nat.le_refl _) _).setCell (Nat.le_refl _) _).setCell (Nat.le_refl _) _).setCell (Nat.le_refl _) _⟩
end Go.Proofs.YtoepemlnlpamlaaGreat
namespace Go.Proofs.YtoepemlnlpamlaaGreat
set_option maxRecDepth 100000
set_option maxHeartbeats 4000000
open Go.RowKit
def TreeRes (E:PE) (w:World) (v:PV) (r:Tree × PS) (e:Ending) (w':World):Prop :=
 ∃ k t a z A n c,e = .returned (.agg #[.int .i64 k,.string t,.int .i64 a,.int .i64 z,.slice A n c])∧TreeOwn w' (fun g=>w.heap.size≤g) r.1 [.int .i64 k,.string t,.int .i64 a,.int .i64 z,.slice A n c]∧PTo E w v r.2 w'
theorem PM.blk {E:PE} {w w':World} {v v':PV} (hm:PM E w v w' v') (h:PW w E v) {g:Nat} {cs:Array Value} (hb:Blk w g 24 cs):Blk w' g 24 cs :=
 hb.keep (hm.keepsN (P:=fun _=>True) h g cs trivial hb)
theorem Blk.five {w:World} {g:Nat} {ty:TypeId} {a b c d e:Value} (h:Blk w g ty #[a,b,c,d,e]) :
 (w.cell? ⟨g,0,none⟩=some a∧w.cell? ⟨g,1,none⟩=some b∧w.cell? ⟨g,2,none⟩=some c∧w.cell? ⟨g,3,none⟩=some d∧w.cell? ⟨g,4,none⟩=some e) ∧
 (w.frozen? ⟨g,0,none⟩=false∧w.frozen? ⟨g,1,none⟩=false∧w.frozen? ⟨g,2,none⟩=false∧w.frozen? ⟨g,3,none⟩=false∧w.frozen? ⟨g,4,none⟩=false) :=
 ⟨⟨h.cell 0,h.cell 1,h.cell 2,h.cell 3,h.cell 4⟩,h.frozen 0,h.frozen 1,h.frozen 2,h.frozen 3,h.frozen 4⟩
def set5 (w:World) (g:Nat) (a b c d e:Value):World:=((((w.setCell ⟨g,0,none⟩ a).setCell ⟨g,1,none⟩ b).setCell ⟨g,2,none⟩ c).setCell ⟨g,3,none⟩ d).setCell ⟨g,4,none⟩ e
theorem tree_end {E:PE} {w wz:World} {v v':PV} {t:Tree} {st:PS} {k a z:Int} {x:ByteArray} {A:Option Addr} {n c:Nat} {cs:Array Value} (hz:PW wz E v') (hm:PM E w v wz v') (hst:v'.st=st) (hR:Blk wz w.heap.size 24 cs) (hgl:E.gp < w.heap.size)
 (hT:TreeOwn wz (fun g=>w.heap.size+1≤g) t [.int .i64 k,.string x,.int .i64 a,.int .i64 z,.slice A n c]) :
 TreeRes E w v (t,st) (.returned (.agg #[.int .i64 k,.string x,.int .i64 a,.int .i64 z,.slice A n c])) (set5 wz w.heap.size (.int .i64 k) (.string x) (.int .i64 a) (.int .i64 z) (.slice A n c)):=by
 have hs:Since (fun g=>g=w.heap.size) wz (set5 wz w.heap.size (.int .i64 k) (.string x) (.int .i64 a) (.int .i64 z) (.slice A n c)):=by
  unfold set5;exact(((((Since.refl (fun g=>g=w.heap.size) wz).setCell (.inl rfl) _).setCell (.inl rfl) _).setCell (.inl rfl) _).setCell (.inl rfl) _).setCell (.inl rfl) _
 have hk:KeepsN (fun g=>w.heap.size+1≤g) wz (set5 wz w.heap.size (.int .i64 k) (.string x) (.int .i64 a) (.int .i64 z) (.slice A n c)):=fun g _ hP hc=>hs.block g (Array.getElem?_eq_some_iff.1 hc).1 (by omega)
 refine⟨k,x,a,z,A,n,c,rfl,TreeOwn.weak (fun g _ hg=>by omega) _ _ (TreeOwn.keeps hk _ _ hT),v',hst,⟨hz.blk.since hs (by omega),hz.own.since hs (fun g hg e1=>hz.own.ne_blk hR (by decide) (by rw[hg,e1])),hz.toks.since hs (fun g hg e1=>hz.toks.ne_blk hR (by decide) (by rw[hg,e1])),hz.at_,hz.good,hz.last⟩,hm.since.step hs (fun g hg=>.inr (by omega)),hm.fresh⟩
theorem leaf_any (E:PE) (hE:E.Ok) (v:PV) (w:World) (hpw:PW w E v) (first:Nat) (kind:Int) (t:Bytes) (lo:Nat) :
 Calls Tryz.prog 71 #[.pointer (some ⟨E.gp,0,none⟩),.int .i64 (first:Int),.int .i64 kind,.string (mkS t),.slice none 0 0] w fun e w'=>e = .returned (.agg #[.int .i64 kind,.string (mkS t),.int .i64 (nodeAt E.l v.st first []),.int .i64 (v.st.last:Int),.slice none 0 0])∧Below w.heap.size w w'∧TreeOwn w' (fun g=>lo≤g) (nodeM E.l v.st first kind t []) [.int .i64 kind,.string (mkS t),.int .i64 (nodeAt E.l v.st first []),.int .i64 (v.st.last:Int),.slice none 0 0]:=by
 refine(node_any E hE v w hpw first kind t lo none 0 0 [] (KidsOwn.nil w lo)).mono ?_;rintro e w' ⟨rfl,hb⟩;exact⟨rfl,hb,(KidsOwn.nil w' lo).node _ _ _ _⟩
theorem word_size {E:PE} (hE:E.Ok) (k:Nat):(mkS (wordM E.bs E.l k)).size≤4096:=by
 have h1:(mkS (wordM E.bs E.l k)).size=(wordM E.bs E.l k).length:=by simp[mkS,ByteArray.size]
 have h2:=hE.size
 have h3:E.bs.length=E.s.size:=by unfold PE.bs;simp
 rw[h1];unfold wordM wordT sub;simp only[List.length_take,List.length_drop];omega
theorem typ_any (E:PE) (hE:E.Ok) (v:PV) (w:World) (hpw:PW w E v):Calls Tryz.prog 182 #[.pointer (some ⟨E.gp,0,none⟩)] w (TreeRes E w v (typM E.bs E.l v.st)):=by
 have hgl:=hpw.blk.lt;have hk2:w.cell? ⟨E.gp,2,none⟩=some (.int .i64 (v.st.k:Int)):=hpw.blk.cell 2
 go_enter Tryz.func182,Tryz.ntmps182
 go_wp2_with fail
 generalize hW1:w.alloc (.cells #[.int .i64 0,.string ⟨#[]⟩,.int .i64 0,.int .i64 0,.slice none 0 0] 24)=W1
 have hb1:Below w.heap.size w W1:=by rw[← hW1];exact below_alloc _ _
 have hR1:Blk W1 w.heap.size 24 #[.int .i64 0,.string ⟨#[]⟩,.int .i64 0,.int .i64 0,.slice none 0 0]:=by rw[← hW1];exact Blk.new w _ _
 have hs1:W1.heap.size=w.heap.size+1:=by rw[← hW1];simp
 have hm1:=PM.of_below (E:=E) (v:=v) hb1;have h1:=hpw.below hb1;have P1:=hm1;have HS1:=kH hs1;have HM1:=kH hm1;clear hW1 hs1 hm1 hb1
 by_cases hbool:isM E.bs E.l v.st [98,111,111,108] = true
 ·have HRES:Hid (typM E.bs E.l v.st=(nodeM E.l (readM E.l v.st) v.st.k 9 [98,111,111,108] [],readM E.l v.st)):=kH (by unfold typM;rw[if_pos hbool])
  have HAC:Hid (acceptM E.bs E.l v.st [98,111,111,108] = readM E.l v.st):=kH (by unfold acceptM;rw[if_pos hbool]);have HBO:=kH hbool;clear hbool;refine(accept_any E hE v [98,111,111,108] _ h1).mono ?_;rintro e w2 ⟨rfl,v2,hv2,h2,hm2⟩;rw[HBO.out];have HV2:=kH hv2;have hR2:=hm2.blk h1 hR1;have P2:=P1.trans hm2;clear hv2 hm2;rw[HAC.out]at HV2
  go_wp2_with fail
  refine(leaf_any E hE v2 _ h2 v.st.k 9 [98,111,111,108] (w.heap.size+1)).mono ?_;rintro e w3 ⟨rfl,hb3,hT3⟩;have h3:=h2.below hb3;have hR3:=hR2.below hb3 hR2.lt;obtain⟨⟨r0,r1,r2,r3,r4⟩,g0,g1,g2,g3,g4⟩:=hR3.five
  go_wp2_with fail
  have HEND:=kH (tree_end (v:=v) h3 (P2.trans (PM.of_below hb3)) rfl hR3 hgl hT3);clear hT3;refine bodyPost_ret (v:=.agg #[.int .i64 9,.string (mkS [98,111,111,108]),.int .i64 (nodeAt E.l v2.st v.st.k []),.int .i64 (v2.st.last:Int),.slice none 0 0]) (by simp[results,Tryz.results182,go_sem,r0,r1,r2,r3,r4]) rfl ?_;exact Eq.mp (congrArg (fun r=>TreeRes E w v r _ _) (show (nodeM E.l v2.st v.st.k 9 [98,111,111,108] [],v2.st)=_ by rw[HV2.out,HRES.out])) HEND.out
 have hb0:isM E.bs E.l v.st [98,111,111,108] = false:=by simpa using hbool
 have HAC:Hid (acceptM E.bs E.l v.st [98,111,111,108] = v.st):=kH (by unfold acceptM;rw[if_neg hbool]);have HBO:=kH hb0;have HNB:=kH hbool;clear hbool hb0;refine(accept_any E hE v [98,111,111,108] _ h1).mono ?_;rintro e w2 ⟨rfl,v2,hv2,h2,hm2⟩;rw[HBO.out];have HV2:=kH hv2;have hR2:=hm2.blk h1 hR1;have P2:=P1.trans hm2;clear hv2 hm2;rw[HAC.out]at HV2
 go_wp2_with fail
 by_cases hint:isM E.bs E.l v.st [105,110,116] = true
 ·have HIN:Hid (isM E.bs E.l v2.st [105,110,116] = true):=kH (by rw[HV2.out];exact hint)
  have HAI:Hid (acceptM E.bs E.l v2.st [105,110,116] = readM E.l v.st):=kH (by rw[HV2.out];unfold acceptM;rw[if_pos hint]);refine(accept_any E hE v2 [105,110,116] _ h2).mono ?_;rintro e w3 ⟨rfl,v3,hv3,h3,hm3⟩;rw[HIN.out];have HV3:=kH hv3;have hR3:=hm3.blk h2 hR2;have P3:=P2.trans hm3;clear hv3 hm3;rw[HAI.out]at HV3;have HINT:=kH hint;clear hint
  go_wp2_with fail
  by_cases hbr:isM E.bs E.l (readM E.l v.st) [91] = true
  ·have HBR:Hid (isM E.bs E.l v3.st [91] = true):=kH (by rw[HV3.out];exact hbr)
   have HAB:Hid (acceptM E.bs E.l v3.st [91] = readM E.l (readM E.l v.st)):=kH (by rw[HV3.out];unfold acceptM;rw[if_pos hbr]);refine(accept_any E hE v3 [91] _ h3).mono ?_;rintro e w4 ⟨rfl,v4,hv4,h4,hm4⟩;rw[HBR.out];have HV4:=kH hv4;have hR4:=hm4.blk h3 hR3;have P4:=P3.trans hm4;clear hv4 hm4;rw[HAB.out]at HV4;have HBRR:=kH hbr;clear hbr
   go_wp2_with fail
   have hkd:=kind_any E hE v4 _ h4;rw[HV4.out]at hkd
   obtain⟨k,hk⟩:∃ x,kindM E.l (readM E.l (readM E.l v.st))=x:=⟨_,rfl⟩
   rw[hk]at hkd;have HK:=kH hk;have HKD:=kH hkd;clear hk hkd
   by_cases hk2':k=2
   ·subst hk2'
    refine HKD.out.mono ?_;rintro e w5 ⟨rfl,hb5⟩;have h5:=h4.below hb5;have hR5:=hR4.below hb5 hR4.lt;have P5:=P4.trans (PM.of_below hb5)
    go_wp2_with fail
    refine(read_any E hE v4 _ h5 (by rw[HV4.out,HK.out];decide)).mono ?_;rintro e w6 ⟨rfl,h6,hm6⟩;have hR6:=hm6.blk h5 hR5;have P6:=P5.trans hm6
    obtain⟨v6,hv6⟩:∃ v6:PV,(⟨readM E.l v4.st,v4.lv⟩:PV)=v6:=⟨_,rfl⟩
    rw[hv6]at h6 P6;have HV6:Hid (v6.st=readM E.l (readM E.l (readM E.l v.st))):=kH (by rw[← hv6,HV4.out]);clear hv6 hm6
    go_wp2_with fail
    refine(digits_any (mkS (wordM E.bs E.l v4.st.k)) _ (word_size hE _)).mono ?_;rintro e w7 ⟨rfl,rfl⟩
    have hdt:mkS (digitsM (mkS (wordM E.bs E.l v4.st.k)).data.toList)=mkS (digitsM (wordM E.bs E.l (readM E.l (readM E.l v.st)).k)):=by rw[HV4.out];rfl
    rw[hdt];clear hdt
    go_wp2_with fail
    refine(expect_any E hE v6 [93] _ h6).mono ?_;rintro e w8 ⟨rfl,v8,hv8,h8,hm8⟩;have HV8:=kH hv8;have hR8:=hm8.blk h6 hR6;have P8:=P6.trans hm8;clear hv8 hm8;rw[HV6.out]at HV8
    go_wp2_with fail
    have HRES:Hid (typM E.bs E.l v.st=(nodeM E.l (expectM E.bs E.l (readM E.l (readM E.l (readM E.l v.st))) [93]) v.st.k 10 (digitsM (wordM E.bs E.l (readM E.l (readM E.l v.st)).k)) [],expectM E.bs E.l (readM E.l (readM E.l (readM E.l v.st))) [93])):=kH (by
     unfold typM;rw[if_neg HNB.out,if_pos HINT.out];simp only;rw[if_pos HBRR.out]
     rw[HK.out,if_pos rfl,if_pos rfl])
    refine(leaf_any E hE v8 _ h8 v.st.k 10 (digitsM (wordM E.bs E.l (readM E.l (readM E.l v.st)).k)) (w.heap.size+1)).mono ?_;rintro e w9 ⟨rfl,hb9,hT9⟩;have h9:=h8.below hb9;have hR9:=hR8.below hb9 hR8.lt;obtain⟨⟨r0,r1,r2,r3,r4⟩,g0,g1,g2,g3,g4⟩:=hR9.five
    go_wp2_with fail
    have HEND:=kH (tree_end (v:=v) h9 (P8.trans (PM.of_below hb9)) rfl hR9 hgl hT9);clear hT9;refine bodyPost_ret (v:=.agg #[.int .i64 10,.string (mkS (digitsM (wordM E.bs E.l (readM E.l (readM E.l v.st)).k))),.int .i64 (nodeAt E.l v8.st v.st.k []),.int .i64 (v8.st.last:Int),.slice none 0 0]) (by simp[results,Tryz.results182,go_sem,r0,r1,r2,r3,r4]) rfl ?_;exact Eq.mp (congrArg (fun r=>TreeRes E w v r _ _) (show (nodeM E.l v8.st v.st.k 10 (digitsM (wordM E.bs E.l (readM E.l (readM E.l v.st)).k)) [],v8.st)=_ by rw[HV8.out,HRES.out])) HEND.out
   ·have hki:((k:Int) == 2)=false:=by simp;omega
    have hkn:(k == 2)=false:=by simp[hk2']
    refine HKD.out.mono ?_;rintro e w5 ⟨rfl,hb5⟩;have h5:=h4.below hb5;have hR5:=hR4.below hb5 hR4.lt;have P5:=P4.trans (PM.of_below hb5)
    go_wp2_with fail
    refine(report_any E hE v4 4 [110,117,109,98,101,114] _ h5).mono ?_;rintro e w6 ⟨⟨u6,rfl⟩,v6,hv6,h6,hm6⟩;have HV6:=kH hv6;rw[HV4.out]at HV6;have hR6:=hm6.blk h5 hR5;have P6:=P5.trans hm6;clear hv6 hm6
    go_wp2_with fail
    refine(expect_any E hE v6 [93] _ h6).mono ?_;rintro e w8 ⟨rfl,v8,hv8,h8,hm8⟩;have HV8:=kH hv8;have hR8:=hm8.blk h6 hR6;have P8:=P6.trans hm8;clear hv8 hm8;rw[HV6.out]at HV8
    go_wp2_with fail
    have HRES:Hid (typM E.bs E.l v.st=(nodeM E.l (expectM E.bs E.l (repM E.l (readM E.l (readM E.l v.st)) 4 [110,117,109,98,101,114]) [93]) v.st.k 10 [] [],expectM E.bs E.l (repM E.l (readM E.l (readM E.l v.st)) 4 [110,117,109,98,101,114]) [93])):=kH (by
     unfold typM;rw[if_neg HNB.out,if_pos HINT.out];simp only;rw[if_pos HBRR.out]
     rw[HK.out,if_neg hk2',if_neg hk2'])
    refine(leaf_any E hE v8 _ h8 v.st.k 10 [] (w.heap.size+1)).mono ?_;rintro e w9 ⟨rfl,hb9,hT9⟩;have h9:=h8.below hb9;have hR9:=hR8.below hb9 hR8.lt;obtain⟨⟨r0,r1,r2,r3,r4⟩,g0,g1,g2,g3,g4⟩:=hR9.five
    go_wp2_with fail
    have HEND:=kH (tree_end (v:=v) h9 (P8.trans (PM.of_below hb9)) rfl hR9 hgl hT9);clear hT9;refine bodyPost_ret (v:=.agg #[.int .i64 10,.string (mkS []),.int .i64 (nodeAt E.l v8.st v.st.k []),.int .i64 (v8.st.last:Int),.slice none 0 0]) (by simp[results,Tryz.results182,go_sem,r0,r1,r2,r3,r4]) rfl ?_;exact Eq.mp (congrArg (fun r=>TreeRes E w v r _ _) (show (nodeM E.l v8.st v.st.k 10 [] [],v8.st)=_ by rw[HV8.out,HRES.out])) HEND.out
  ·have hbr0:isM E.bs E.l (readM E.l v.st) [91] = false:=by simpa using hbr
   have HBR:Hid (isM E.bs E.l v3.st [91] = false):=kH (by rw[HV3.out];exact hbr0);have HAB:Hid (acceptM E.bs E.l v3.st [91] = readM E.l v.st):=kH (by rw[HV3.out];unfold acceptM;rw[if_neg hbr]);have HBRR:=kH hbr;clear hbr hbr0;refine(accept_any E hE v3 [91] _ h3).mono ?_;rintro e w4 ⟨rfl,v4,hv4,h4,hm4⟩;rw[HBR.out];have HV4:=kH hv4;have hR4:=hm4.blk h3 hR3;have P4:=P3.trans hm4;clear hv4 hm4;rw[HAB.out]at HV4
   go_wp2_with fail
   have HRES:Hid (typM E.bs E.l v.st=(nodeM E.l (readM E.l v.st) v.st.k 9 [105,110,116] [],readM E.l v.st)):=kH (by
    unfold typM;rw[if_neg HNB.out,if_pos HINT.out];simp only
    rw[if_neg HBRR.out])
   refine(leaf_any E hE v4 _ h4 v.st.k 9 [105,110,116] (w.heap.size+1)).mono ?_;rintro e w5 ⟨rfl,hb5,hT5⟩;have h5:=h4.below hb5;have hR5:=hR4.below hb5 hR4.lt;obtain⟨⟨r0,r1,r2,r3,r4⟩,g0,g1,g2,g3,g4⟩:=hR5.five
   go_wp2_with fail
   have HEND:=kH (tree_end (v:=v) h5 (P4.trans (PM.of_below hb5)) rfl hR5 hgl hT5);clear hT5;refine bodyPost_ret (v:=.agg #[.int .i64 9,.string (mkS [105,110,116]),.int .i64 (nodeAt E.l v4.st v.st.k []),.int .i64 (v4.st.last:Int),.slice none 0 0]) (by simp[results,Tryz.results182,go_sem,r0,r1,r2,r3,r4]) rfl ?_;exact Eq.mp (congrArg (fun r=>TreeRes E w v r _ _) (show (nodeM E.l v4.st v.st.k 9 [105,110,116] [],v4.st)=_ by rw[HV4.out,HRES.out])) HEND.out
 ·have hint0:isM E.bs E.l v.st [105,110,116] = false:=by simpa using hint
  have HIN:Hid (isM E.bs E.l v2.st [105,110,116] = false):=kH (by rw[HV2.out];exact hint0);have HAI:Hid (acceptM E.bs E.l v2.st [105,110,116] = v.st):=kH (by rw[HV2.out];unfold acceptM;rw[if_neg hint]);have HINT:=kH hint;clear hint hint0;refine(accept_any E hE v2 [105,110,116] _ h2).mono ?_;rintro e w3 ⟨rfl,v3,hv3,h3,hm3⟩;rw[HIN.out];have HV3:=kH hv3;have hR3:=hm3.blk h2 hR2;have P3:=P2.trans hm3;clear hv3 hm3;rw[HAI.out]at HV3
  go_wp2_with fail
  have hkd:=kind_any E hE v3 _ h3;rw[HV3.out]at hkd
  obtain⟨k,hk⟩:∃ x,kindM E.l v.st=x:=⟨_,rfl⟩
  rw[hk]at hkd;have HK:=kH hk;have HKD:=kH hkd;clear hk hkd
  by_cases hk0:k=0
  ·subst hk0
   refine HKD.out.mono ?_;rintro e w4 ⟨rfl,hb4⟩;have h4:=h3.below hb4;have hR4:=hR3.below hb4 hR3.lt;have P4:=P3.trans (PM.of_below hb4)
   go_wp2_with fail
   refine(read_any E hE v3 _ h4 (by rw[HV3.out,HK.out];decide)).mono ?_;rintro e w6 ⟨rfl,h6,hm6⟩;have hR6:=hm6.blk h4 hR4;have P6:=P4.trans hm6
   obtain⟨v6,hv6⟩:∃ v6:PV,(⟨readM E.l v3.st,v3.lv⟩:PV)=v6:=⟨_,rfl⟩
   rw[hv6]at h6 P6;have HV6:Hid (v6.st=readM E.l v.st):=kH (by rw[← hv6,HV3.out])
   have hwd:wordM E.bs E.l v3.st.k=wordM E.bs E.l v.st.k:=by rw[HV3.out]
   rw[hwd];clear hv6 hm6 hwd
   go_wp2_with fail
   have HRES:Hid (typM E.bs E.l v.st=(nodeM E.l (readM E.l v.st) v.st.k 9 (wordM E.bs E.l v.st.k) [],readM E.l v.st)):=kH (by
    unfold typM
    rw[if_neg HNB.out,if_neg HINT.out,if_pos HK.out])
   refine(leaf_any E hE v6 _ h6 v.st.k 9 (wordM E.bs E.l v.st.k) (w.heap.size+1)).mono ?_;rintro e w7 ⟨rfl,hb7,hT7⟩;have h7:=h6.below hb7;have hR7:=hR6.below hb7 hR6.lt;obtain⟨⟨r0,r1,r2,r3,r4⟩,g0,g1,g2,g3,g4⟩:=hR7.five
   go_wp2_with fail
   have HEND:=kH (tree_end (v:=v) h7 (P6.trans (PM.of_below hb7)) rfl hR7 hgl hT7);clear hT7;refine bodyPost_ret (v:=.agg #[.int .i64 9,.string (mkS (wordM E.bs E.l v.st.k)),.int .i64 (nodeAt E.l v6.st v.st.k []),.int .i64 (v6.st.last:Int),.slice none 0 0]) (by simp[results,Tryz.results182,go_sem,r0,r1,r2,r3,r4]) rfl ?_;exact Eq.mp (congrArg (fun r=>TreeRes E w v r _ _) (show (nodeM E.l v6.st v.st.k 9 (wordM E.bs E.l v.st.k) [],v6.st)=_ by rw[HV6.out,HRES.out])) HEND.out
  ·have hki:((k:Int) == 0)=false:=by simp;omega
   have hkn:(k == 0)=false:=by simp[hk0]
   refine HKD.out.mono ?_;rintro e w4 ⟨rfl,hb4⟩;have h4:=h3.below hb4;have hR4:=hR3.below hb4 hR3.lt;have P4:=P3.trans (PM.of_below hb4)
   go_wp2_with fail
   refine(report_any E hE v3 4 [116,121,112,101] _ h4).mono ?_;rintro e w6 ⟨⟨u6,rfl⟩,v6,hv6,h6,hm6⟩;have HV6:=kH hv6;rw[HV3.out]at HV6;have hR6:=hm6.blk h4 hR4;have P6:=P4.trans hm6;clear hv6 hm6
   go_wp2_with fail
   have HRES:Hid (typM E.bs E.l v.st=(nodeM E.l (repM E.l v.st 4 [116,121,112,101]) v.st.k 1 [] [],repM E.l v.st 4 [116,121,112,101])):=kH (by
    unfold typM
    rw[if_neg HNB.out,if_neg HINT.out,if_neg (by rw[HK.out];exact hk0)])
   refine(leaf_any E hE v6 _ h6 v.st.k 1 [] (w.heap.size+1)).mono ?_;rintro e w7 ⟨rfl,hb7,hT7⟩;have h7:=h6.below hb7;have hR7:=hR6.below hb7 hR6.lt;obtain⟨⟨r0,r1,r2,r3,r4⟩,g0,g1,g2,g3,g4⟩:=hR7.five
   go_wp2_with fail
   have HEND:=kH (tree_end (v:=v) h7 (P6.trans (PM.of_below hb7)) rfl hR7 hgl hT7);clear hT7;refine bodyPost_ret (v:=.agg #[.int .i64 1,.string (mkS []),.int .i64 (nodeAt E.l v6.st v.st.k []),.int .i64 (v6.st.last:Int),.slice none 0 0]) (by simp[results,Tryz.results182,go_sem,r0,r1,r2,r3,r4]) rfl ?_;exact Eq.mp (congrArg (fun r=>TreeRes E w v r _ _) (show (nodeM E.l v6.st v.st.k 1 [] [],v6.st)=_ by rw[HV6.out,HRES.out])) HEND.out
end Go.Proofs.YtoepemlnlpamlaaGreat
namespace Go.Proofs.YtoepemlnlpamlaaGreat
set_option maxRecDepth 100000
set_option maxHeartbeats 4000000
open Go.RowKit
theorem optional_any (E:PE) (hE:E.Ok) (v:PV) (w:World) (hpw:PW w E v):Calls Tryz.prog 130 #[.pointer (some ⟨E.gp,0,none⟩)] w (TreeRes E w v (optM E.bs E.l v.st)):=by
 have hgl:=hpw.blk.lt
 go_enter Tryz.func130,Tryz.ntmps130
 go_wp2_with fail
 generalize hW1:w.alloc (.cells #[.int .i64 0,.string ⟨#[]⟩,.int .i64 0,.int .i64 0,.slice none 0 0] 24)=W1
 have hb1:Below w.heap.size w W1:=by rw[← hW1];exact below_alloc _ _
 have hR1:Blk W1 w.heap.size 24 #[.int .i64 0,.string ⟨#[]⟩,.int .i64 0,.int .i64 0,.slice none 0 0]:=by rw[← hW1];exact Blk.new w _ _
 have hs1:W1.heap.size=w.heap.size+1:=by rw[← hW1];simp
 have hm1:=PM.of_below (E:=E) (v:=v) hb1;have h1:=hpw.below hb1;have P1:=hm1;have HS1:=kH hs1;have HM1:=kH hm1;clear hW1 hs1 hm1 hb1
 by_cases hc:isM E.bs E.l v.st [58] = true
 ·have HRES:Hid (optM E.bs E.l v.st=typM E.bs E.l (readM E.l v.st)):=kH (by unfold optM;rw[if_pos hc])
  have HAC:Hid (acceptM E.bs E.l v.st [58] = readM E.l v.st):=kH (by unfold acceptM;rw[if_pos hc]);have HBO:=kH hc;clear hc;refine(accept_any E hE v [58] _ h1).mono ?_;rintro e w2 ⟨rfl,v2,hv2,h2,hm2⟩;rw[HBO.out];have HV2:=kH hv2;have hR2:=hm2.blk h1 hR1;have P2:=P1.trans hm2;clear hv2 hm2;rw[HAC.out]at HV2
  go_wp2_with fail
  refine(typ_any E hE v2 _ h2).mono ?_;rintro e w3 ⟨k3,t3,a3,z3,A3,n3,c3,rfl,hT3,v3,hv3,h3,hm3⟩;have HV3:=kH hv3;have hR3:=hm3.blk h2 hR2;have P3:=P2.trans hm3
  replace hT3:=TreeOwn.weak (Q:=fun g=>w.heap.size+1≤g) (fun g _ hg=>Nat.le_trans hR2.lt hg) _ _ hT3
  clear hv3;rw[HV2.out]at HV3 hT3;obtain⟨⟨r0,r1,r2,r3,r4⟩,g0,g1,g2,g3,g4⟩:=hR3.five
  go_wp2_with fail
  have HEND:=kH (tree_end (v:=v) h3 P3 rfl hR3 hgl hT3);clear hT3;rw[HV3.out]at HEND;refine bodyPost_ret (v:=.agg #[.int .i64 k3,.string t3,.int .i64 a3,.int .i64 z3,.slice A3 n3 c3]) (by simp[results,Tryz.results130,go_sem,r0,r1,r2,r3,r4]) rfl ?_
  try rw[HRES.out]
  exact HEND.out
 ·have hc0:isM E.bs E.l v.st [58] = false:=by simpa using hc
  have HRES:Hid (optM E.bs E.l v.st=(nodeM E.l v.st v.st.k 0 [] [],v.st)):=kH (by unfold optM;rw[if_neg hc]);have HAC:Hid (acceptM E.bs E.l v.st [58] = v.st):=kH (by unfold acceptM;rw[if_neg hc]);have HBO:=kH hc0;clear hc hc0;refine(accept_any E hE v [58] _ h1).mono ?_;rintro e w2 ⟨rfl,v2,hv2,h2,hm2⟩;rw[HBO.out];have HV2:=kH hv2;have hR2:=hm2.blk h1 hR1;have P2:=P1.trans hm2;clear hv2 hm2;rw[HAC.out]at HV2;have hkc:w2.cell? ⟨E.gp,2,none⟩=some (.int .i64 (v2.st.k:Int)):=h2.blk.cell 2
  have hks:v2.st.k=v.st.k:=by rw[HV2.out]
  rw[hks]at hkc;clear hks
  go_wp2_with fail
  refine(leaf_any E hE v2 _ h2 v.st.k 0 [] (w.heap.size+1)).mono ?_;rintro e w3 ⟨rfl,hb3,hT3⟩;have h3:=h2.below hb3;have hR3:=hR2.below hb3 hR2.lt;obtain⟨⟨r0,r1,r2,r3,r4⟩,g0,g1,g2,g3,g4⟩:=hR3.five
  go_wp2_with fail
  have HEND:=kH (tree_end (v:=v) h3 (P2.trans (PM.of_below hb3)) rfl hR3 hgl hT3);clear hT3;refine bodyPost_ret (v:=.agg #[.int .i64 0,.string (mkS []),.int .i64 (nodeAt E.l v2.st v.st.k []),.int .i64 (v2.st.last:Int),.slice none 0 0]) (by simp[results,Tryz.results130,go_sem,r0,r1,r2,r3,r4]) rfl ?_;exact Eq.mp (congrArg (fun r=>TreeRes E w v r _ _) (show (nodeM E.l v2.st v.st.k 0 [] [],v2.st)=_ by rw[HV2.out,HRES.out])) HEND.out
theorem variable_any (E:PE) (hE:E.Ok) (v:PV) (w:World) (hpw:PW w E v):Calls Tryz.prog 187 #[.pointer (some ⟨E.gp,0,none⟩)] w (TreeRes E w v (varM E.bs E.l v.st)):=by
 have hgl:=hpw.blk.lt;have hk2:w.cell? ⟨E.gp,2,none⟩=some (.int .i64 (v.st.k:Int)):=hpw.blk.cell 2
 go_enter Tryz.func187,Tryz.ntmps187
 go_wp2_with fail
 generalize hW1:w.alloc (.cells #[.int .i64 0,.string ⟨#[]⟩,.int .i64 0,.int .i64 0,.slice none 0 0] 24)=W1
 have hb1:Below w.heap.size w W1:=by rw[← hW1];exact below_alloc _ _
 have hR1:Blk W1 w.heap.size 24 #[.int .i64 0,.string ⟨#[]⟩,.int .i64 0,.int .i64 0,.slice none 0 0]:=by rw[← hW1];exact Blk.new w _ _
 have hs1:W1.heap.size=w.heap.size+1:=by rw[← hW1];simp
 have hm1:=PM.of_below (E:=E) (v:=v) hb1;have h1:=hpw.below hb1;have P1:=hm1;have HS1:=kH hs1;have HM1:=kH hm1;clear hW1 hs1 hm1 hb1;have HRES:Hid (varM E.bs E.l v.st=(nodeM E.l (nameP E.l v.st) v.st.k 20 (nameT E.bs E.l v.st) [],nameP E.l v.st)):=kH rfl;refine(name_any E hE v _ h1).mono ?_;rintro e w2 ⟨rfl,v2,hv2,h2,hm2⟩;have HV2:=kH hv2;have hR2:=hm2.blk h1 hR1;have P2:=P1.trans hm2;clear hv2 hm2
 go_wp2_with fail
 refine(leaf_any E hE v2 _ h2 v.st.k 20 (nameT E.bs E.l v.st) (w.heap.size+1)).mono ?_;rintro e w3 ⟨rfl,hb3,hT3⟩;have h3:=h2.below hb3;have hR3:=hR2.below hb3 hR2.lt;obtain⟨⟨r0,r1,r2,r3,r4⟩,g0,g1,g2,g3,g4⟩:=hR3.five
 go_wp2_with fail
 have HEND:=kH (tree_end (v:=v) h3 (P2.trans (PM.of_below hb3)) rfl hR3 hgl hT3);clear hT3;refine bodyPost_ret (v:=.agg #[.int .i64 20,.string (mkS (nameT E.bs E.l v.st)),.int .i64 (nodeAt E.l v2.st v.st.k []),.int .i64 (v2.st.last:Int),.slice none 0 0]) (by simp[results,Tryz.results187,go_sem,r0,r1,r2,r3,r4]) rfl ?_;exact Eq.mp (congrArg (fun r=>TreeRes E w v r _ _) (show (nodeM E.l v2.st v.st.k 20 (nameT E.bs E.l v.st) [],v2.st)=_ by rw[HV2.out,HRES.out])) HEND.out
end Go.Proofs.YtoepemlnlpamlaaGreat
