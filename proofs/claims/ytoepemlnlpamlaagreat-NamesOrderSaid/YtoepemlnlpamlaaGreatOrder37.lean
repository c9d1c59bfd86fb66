/- The law NamesOrder holds: for every text and both numbers the law returns true, and its arguments read as before. No condition. Part 37: Res3 Visib Free Fre1. -/
import Derived.Test.YtoepemlnlpamlaaGreatOrder15
import Derived.Test.YtoepemlnlpamlaaGreatOrder21
import Derived.Test.YtoepemlnlpamlaaGreatOrder34
import Derived.Test.YtoepemlnlpamlaaGreatOrder35
import Derived.Test.YtoepemlnlpamlaaGreatOrder36
namespace Go.Proofs.YtoepemlnlpamlaaGreat
set_option maxRecDepth 100000
set_option maxHeartbeats 4000000
open Go.RowKit
def ResOut (t:Tree) (w:World) (e:Ending) (w':World):Prop :=
 (validM t=false∧e = .returned (.tuple #[.agg #[.slice none 0 0,.slice none 0 0],.slice none 0 0,.int .i64 1])∧Below w.heap.size w w') ∨
 (validM t=true∧∃ E V A n c,e = .returned (.tuple #[.agg #[.slice V.dA (resolveM t).ds.length V.dc,.slice E.uA (resolveM t).uses.length E.uc],.slice A n c,.int .i64 0])∧w.heap.size≤E.base∧RSAt E (collectM t) (resolveM t) V w'∧n=(resolveM t).probs.length∧OwnS w' w.heap.size 78 5 (.slice A n c) n ((resolveM t).probs.flatMap fun p=>dgCells p.2)∧Below w.heap.size w w')
theorem RSAt.farBlk {E:RC} {G:Glob} {r:RS} {V:RV} {w w':World} {g:Nat} {t:TypeId} {cs:Array Value} (h:RSAt E G r V w) (hb:Blk w g t cs) (h1:t≠75) (h2:t≠3) (h3:t≠49) (h4:t≠80) (hs:Since (fun x=>x=g) w w'):RSAt E G r V w':=by
 have ham:∀ {K:Type} [DecidableEq K] {KK:KeyK K} {q:Nat} {m:List (K × Value)},AMap KK w q m→AMap KK w' q m:=fun ha=>ha.since hs (fun h1=>ha.not_blk hb h1)
 have how:∀ {e size v n xs},OwnS w E.base e size v n xs→t≠e→OwnS w' E.base e size v n xs:=fun ha hne=>ha.since hs (fun q hq h1=>ha.ne_blk hb hne.symm (by rw[hq,h1]))
 refine⟨h.blk.since hs (fun e=>?_),ham h.gl,ham h.fl,ham h.kn,ham h.vi,VisAt.of_block h.vis fun q cur hq _=>hs.block q (Array.getElem?_eq_some_iff.1 hq).1 fun e=>?_,how h.ds h3,how h.us h2,how h.ps h4,h.low,h.apart⟩
 ·have e1:w.heap[E.rp]? = some (Obj.cells _ _ (0,0)):=h.blk
  have e2:w.heap[g]? = some (Obj.cells _ _ (0,0)):=hb;rw[e,e2]at e1;simp only[Option.some.injEq,Obj.cells.injEq]at e1;exact h1 e1.2.1
 ·have e2:w.heap[g]? = some (Obj.cells _ _ (0,0)):=hb
  rw[e,e2]at hq;simp only[Option.some.injEq,Obj.cells.injEq]at hq;exact h2 hq.2.1
theorem news_dg (w:World) (g:Nat) (d:Dg) (h0:w.cell? ⟨g,0,none⟩=some (.int .i64 d.code)) (h1:w.cell? ⟨g,1,none⟩=some (.int .i64 d.at_)) (h2:w.cell? ⟨g,2,none⟩=some (.int .i64 d.end_)) (h3:w.cell? ⟨g,3,none⟩=some (.string d.text)) (h4:w.cell? ⟨g,4,none⟩=some (.slice none 0 0)) :
 ∀ j v,(dgCells d)[j]? = some v→w.cell? ((⟨g,0,none⟩:Addr).add j)=some v:=by
 intro j v hj
 match j,hj with
 | 0,hj=>cases hj;exact h0
 | 1,hj=>cases hj;simpa [Addr.add] using h1
 | 2,hj=>cases hj;simpa [Addr.add] using h2
 | 3,hj=>cases hj;simpa [Addr.add] using h3
 | 4,hj=>cases hj;simpa [Addr.add] using h4
 | j+5,hj=>simp[dgCells]at hj
theorem Resolve_any (t:Tree) (A:Option Addr) (c:Nat) (w:World) (hN:countM t≤1000000) (hcap:t.kids.length≤c) (hk:KidsAt w w.heap.size A 0 t.kids) :
 Calls Tryz.prog 12 #[nodeV t A c] w (ResOut t w):=by
 obtain⟨k0,x0,a0,z0,n0,-,-,-,-,-,hnv⟩:=node_named t A c;obtain⟨i0,hi0,hz0,hz1,hz2⟩:=info_parts dg_info
 obtain⟨W1,hW1⟩:∃ W1,(w.alloc (.cells #[.int .i64 k0,.string x0,.int .i64 a0,.int .i64 z0,.slice A n0 c] 24)).alloc (.cells #[.slice none 0 0,.slice none 0 0] 30)=W1:=⟨_,rfl⟩
 have hnb:Blk W1 w.heap.size 24 #[.int .i64 k0,.string x0,.int .i64 a0,.int .i64 z0,.slice A n0 c]:=by rw[← hW1];exact(Blk.new w _ _).alloc _
 have hrb:Blk W1 (w.heap.size+1) 30 #[.slice none 0 0,.slice none 0 0]:=by
  rw[← hW1];have:=Blk.new (w.alloc (.cells #[.int .i64 k0,.string x0,.int .i64 a0,.int .i64 z0,.slice A n0 c] 24)) 30 #[.slice none 0 0,.slice none 0 0]
  simpa using this
 have hb1:Below w.heap.size w W1:=by rw[← hW1];exact(below_alloc w _).trans ((below_alloc _ _).mono (by simp))
 have hval:=Valid_any t A c W1 (by omega) (KidsAt.mono hb1.size _ _ _ (KidsAt.below hb1 (Nat.le_refl _) _ _ _ hk));rw[hnv]at hval ⊢
 obtain⟨vb,hvb⟩:∃ q,validM t=q:=⟨_,rfl⟩
 rw[hvb]at hval;have HVAL:=kH hval;have HVB:=kH hvb;have HNB:=kH hnb;have HRB:=kH hrb;have HB1:=kH hb1;have HNV:=kH hnv;have HCAP:=kH hcap;have HK:=kH hk;have m0:=hnb.cell 0;have m1:=hnb.cell 1;have m2:=hnb.cell 2;have m3:=hnb.cell 3;have m4:=hnb.cell 4;have lm:=hnb.lt;clear hval hvb hnb hrb hb1 hnv hcap hk
 go_enter Tryz.func12,Tryz.ntmps12
 go_wp2_with fail
 clear hW1 m0 m1 m2 m3 m4 lm;refine HVAL.out.mono ?_;rintro e2 w2 ⟨rfl,hb2⟩;have HB2:Hid (Below w.heap.size w w2):=kH (HB1.out.trans (hb2.mono HB1.out.size));have HNB2:=kH (HNB.out.below hb2 HNB.out.lt);have HRB2:=kH (HRB.out.below hb2 HRB.out.lt);clear hb2
 cases vb with
 | false =>
  have r0:=HRB2.out.cell 0;have r1:=HRB2.out.cell 1;have g0:=HRB2.out.frozen 0;have g1:=HRB2.out.frozen 1;have lr:=HRB2.out.lt
  go_wp2_with fail
  try simp only[Exit.inBlock,Exit.then]
  refine bodyPost_ret (v:=.tuple #[.agg #[.slice none 0 0,.slice none 0 0],.slice none 0 0,.int .i64 1]) (by simp[results,Tryz.results12,go_sem,r0,r1]) rfl ?_;exact .inl ⟨HVB.out,rfl,(HB2.out.setCell (p:=⟨w.heap.size+1,0,none⟩) (by show w.heap.size≤w.heap.size+1;omega) _).setCell (p:=⟨w.heap.size+1,1,none⟩) (by show w.heap.size≤w.heap.size+1;omega) _⟩
 | true =>
  have hres:=resolve_any t A c w2 (valid_vok HVB.out) hN HCAP.out (KidsAt.mono HB2.out.size _ _ _ (KidsAt.below HB2.out (Nat.le_refl _) _ _ _ HK.out));rw[HNV.out]at hres;have HRES:=kH hres;have m0:=HNB2.out.cell 0;have m1:=HNB2.out.cell 1;have m2:=HNB2.out.cell 2;have m3:=HNB2.out.cell 3;have m4:=HNB2.out.cell 4;have lm:=HNB2.out.lt;clear hres
  go_wp2_with fail
  clear m0 m1 m2 m3 m4 lm;refine HRES.out.mono ?_;rintro e3 w3 ⟨E,V,rfl,hEb,hR3,hb3⟩;have HRB3:=kH (HRB2.out.below hb3 HRB2.out.lt);have HB3:Hid (Below w.heap.size w w3):=kH (HB2.out.trans (hb3.mono HB2.out.size));have HEB:Hid (w.heap.size≤E.base∧w.heap.size+1 < w3.heap.size):=kH ⟨by rw[hEb];exact HB2.out.size,HRB3.out.lt⟩
  obtain⟨R,hR⟩:∃ R,resolveM t=R:=⟨_,rfl⟩
  rw[hR]at hR3;have HRR:=kH hR
  obtain⟨np,hnp⟩:∃ q,R.probs.length=q:=⟨_,rfl⟩
  have hnpm:np≤1000000:=by
   rw[← hnp,← hR];have h1:=(visit_slow (collectM t) t false [] ⟨[],List.replicate (countM t) (-1),[],[],0,0⟩).probs;have h2:=next_le (collectM t) t false [] ⟨[],List.replicate (countM t) (-1),[],[],0,0⟩;show (visitM (collectM t) false t [] ⟨[],List.replicate (countM t) (-1),[],[],0,0⟩).1.probs.length≤_
   generalize (visitM (collectM t) false t [] ⟨[],List.replicate (countM t) (-1),[],[],0,0⟩).1=Z at h1 h2 ⊢
   have h3:Z.probs.length+0≤0+Z.next:=h1;have h4:Z.next≤0+countM t:=h2;omega
  obtain⟨pA,hpA⟩:∃ q,V.pA=q:=⟨_,rfl⟩
  have c6:w3.cell? ⟨E.rp,6,none⟩=some (.slice pA np V.pc):=by
   have:=hR3.blk.cell 6;rw[← hnp,← hpA];exact this
  have lr3:=hR3.blk.lt;have hrow:=hR3.ps.rowAt (cells:=pbCells) (l:=R.probs) rfl rfl (fun c _=>rfl) rfl;rw[hpA]at hrow;have HROW:=kH hrow;have HR3:=kH hR3;have HNP:=kH hnp;clear hR hnp hpA hrow hR3 hb3 hEb HRES
  go_wp2_with fail
  clear c6
  go_loopg [6,20] np (fun gk s6 s20 wr => ∃ (i:Nat) (Aw:Option Addr) (cw:Nat),s20 = .int .i64 (i:Int)∧s6 = .slice Aw i cw∧i+gk=np∧Hid (OwnS wr w3.heap.size 78 5 (.slice Aw i cw) i ((R.probs.take i).flatMap fun p=>dgCells p.2))∧Hid (Below w3.heap.size w3 wr))
  case atStart=>exact⟨0,none,0,rfl,rfl,by omega,kH (OwnS.nil _ _ _ _),kH (Below.refl _ _)⟩
  case round =>
   obtain⟨i,Aw,cw,rfl,rfl,hi,HO,HB⟩:=hrel
   by_cases hlt:i < np
   ·have hlt':(i:Int) < (np:Int):=by omega
    have hw:IntKind.i64.wrap ((i:Int)+1)=(i:Int)+1:=IntWalk.i64_in _ (by omega)
    obtain⟨p,hp⟩:∃ p,R.probs[i]? = some p:=⟨_,List.getElem?_eq_getElem (by rw[HNP.out];exact hlt)⟩
    obtain⟨b,off,hA,hbl0,hcs⟩:=(HROW.out.later HB.out) i p hp;subst hA;have hbl:b < wr.heap.size:=hbl0;have HPI:Hid ((R.probs.take (i+1)).flatMap (fun p=>dgCells p.2)=(R.probs.take i).flatMap (fun p=>dgCells p.2) ++ dgCells p.2):=kH (by rw[take_snoc hp];simp);obtain⟨p1,p2,p3,p4,p5⟩:=p
    have t0:wr.cell? ⟨b,off+i * 6,none⟩=some (.int .i64 p1):=by simpa using hcs 0 _ rfl
    have t1:wr.cell? ⟨b,off+i * 6+1,none⟩=some (.int .i64 p2):=by simpa using hcs 1 _ rfl
    have t2:wr.cell? ⟨b,off+i * 6+2,none⟩=some (.int .i64 p3):=by simpa using hcs 2 _ rfl
    have t3:wr.cell? ⟨b,off+i * 6+3,none⟩=some (.int .i64 p4):=by simpa using hcs 3 _ rfl
    have t4:wr.cell? ⟨b,off+i * 6+4,none⟩=some (.string p5):=by simpa using hcs 4 _ rfl
    have t5:wr.cell? ⟨b,off+i * 6+5,none⟩=some (.slice none 0 0):=by simpa using hcs 5 _ rfl
    clear hcs hp hbl0
    go_wp2_with (at_builtin;go_must (refine wpList_append_S _ rfl (.tmp 24) (.tmp 27) _ rfl w3.heap.size 78 i0 _ 5 64 Tryz.underlying31 hi0 hz0 hz1 hz2 rfl (.slice Aw i cw) i ((R.probs.take i).flatMap fun p=>dgCells p.2) rfl ((HO.out.alloc _).alloc _) ⟨wr.heap.size+1,0,none⟩ 1 1 (dgCells ⟨p2,p3,p4,p5⟩) rfl rfl (news_dg _ _ _ (by go_simp) (by go_simp) (by go_simp) (by go_simp) (by go_simp)) (by simp[dgCells,Value.oneCell']) (by simp only[maxLen];omega) (by omega) (by have:=HB.out.size;simp;omega) ?_);intro vn w6 hown hgrow hat;obtain⟨A6,c6,hvn,-,-⟩:=hown.shape;subst hvn;have HOWN:=kH hown;have HGROW:=kH hgrow;clear hown hgrow hat)
    have HP1:Hid (OwnS w6 w3.heap.size 78 5 (.slice A6 (i+1) c6) (i+1) ((R.probs.take (i+1)).flatMap fun p=>dgCells p.2)):=kH (by rw[HPI.out];exact HOWN.out);have HP2:Hid (Below w3.heap.size w3 w6):=kH ((HB.out.trans (((Below.refl _ wr).alloc (Nat.le_refl _) _ |>.alloc (by simp) _).mono HB.out.size)).trans (((Since.refl (fun g=>w3.heap.size≤g) _).grown HGROW.out (fun g hg=>.inl (HO.out.lt g hg).1)).toBelow (by have:=HB.out.size;simp;omega) (fun g hg=>hg)));clear HOWN HGROW
    go_roundg (gk - 1)
    case measure=>omega
    case rel=>exact⟨i+1,A6,c6,by simp,rfl,by omega,HP1,HP2⟩
   ·have hin:i=np:=by omega
    subst hin
    have hge:¬ ((i:Int) < (i:Int)):=by omega
    have hRr:=HR3.out.below HB.out;have hRBr:=HRB3.out.below HB.out HRB3.out.lt
    obtain⟨nd,hnd⟩:∃ q,R.ds.length=q:=⟨_,rfl⟩
    obtain⟨nu,hnu⟩:∃ q,R.uses.length=q:=⟨_,rfl⟩
    have c3:wr.cell? ⟨E.rp,3,none⟩=some (.slice V.dA nd V.dc):=by rw[← hnd];exact hRr.blk.cell 3
    have c4:wr.cell? ⟨E.rp,4,none⟩=some (.slice E.uA nu E.uc):=by rw[← hnu];exact hRr.blk.cell 4
    have lr:=hRr.blk.lt;have r0:=hRBr.cell 0;have r1:=hRBr.cell 1;have g0:=hRBr.frozen 0;have g1:=hRBr.frozen 1;have lb:=hRBr.lt
    have hne:E.rp≠w.heap.size+1:=fun e=>by
     have h1:wr.heap[E.rp]? = some (Obj.cells _ _ (0,0)):=hRr.blk;have h2:wr.heap[w.heap.size+1]? = some (Obj.cells _ _ (0,0)):=hRBr;rw[e,h2]at h1;simp at h1
    have hss:Since (fun g=>g=w.heap.size+1) wr ((wr.drew.setCell ⟨w.heap.size+1,0,none⟩ (.slice V.dA nd V.dc)).setCell ⟨w.heap.size+1,1,none⟩ (.slice E.uA nu E.uc)) :=
     Since.setCell (S:=fun g=>g=w.heap.size+1) (Since.setCell (S:=fun g=>g=w.heap.size+1) ((Since.refl _ wr).drew) (p:=⟨w.heap.size+1,0,none⟩) (.inl rfl) _) (p:=⟨w.heap.size+1,1,none⟩) (.inl rfl) _
    have hRz:=hRr.farBlk hRBr (by decide) (by decide) (by decide) (by decide) hss
    have hOz:OwnS ((wr.drew.setCell ⟨w.heap.size+1,0,none⟩ (.slice V.dA nd V.dc)).setCell ⟨w.heap.size+1,1,none⟩ (.slice E.uA nu E.uc)) w.heap.size 78 5 (.slice Aw i cw) i ((resolveM t).probs.flatMap fun p=>dgCells p.2):=by
     have:=(HO.out.mono HB3.out.size).since hss (fun q hq h1=>HO.out.ne_blk hRBr (by decide) (by rw[hq,h1]));rw[HRR.out];rw[List.take_of_length_le (by rw[HNP.out];exact Nat.le_refl _)]at this;exact this
    have hBz:Below w.heap.size w ((wr.drew.setCell ⟨w.heap.size+1,0,none⟩ (.slice V.dA nd V.dc)).setCell ⟨w.heap.size+1,1,none⟩ (.slice E.uA nu E.uc)) :=
     ((((HB3.out.trans (HB.out.mono HB3.out.size))).drew).setCell (p:=⟨w.heap.size+1,0,none⟩) (by show w.heap.size≤w.heap.size+1;omega) _).setCell (p:=⟨w.heap.size+1,1,none⟩) (by show w.heap.size≤w.heap.size+1;omega) _
    have hbz:=(hRBr.drew.set_ 0 (.slice V.dA nd V.dc)).set_ 1 (.slice E.uA nu E.uc);have HBZ:Hid (Blk ((wr.drew.setCell ⟨w.heap.size+1,0,none⟩ (.slice V.dA nd V.dc)).setCell ⟨w.heap.size+1,1,none⟩ (.slice E.uA nu E.uc)) (w.heap.size+1) 30 #[.slice V.dA nd V.dc,.slice E.uA nu E.uc]):=kH (by simpa using hbz)
    have HEND:Hid (ResOut t w (.returned (.tuple #[.agg #[.slice V.dA nd V.dc,.slice E.uA nu E.uc],.slice Aw i cw,.int .i64 0])) ((wr.drew.setCell ⟨w.heap.size+1,0,none⟩ (.slice V.dA nd V.dc)).setCell ⟨w.heap.size+1,1,none⟩ (.slice E.uA nu E.uc))):=kH (by
     refine .inr ⟨HVB.out,E,V,Aw,i,cw,by rw[HRR.out,hnd,hnu],HEB.out.1,by rw[HRR.out];exact hRz,by rw[HRR.out,HNP.out],hOz,hBz⟩)
    clear hRz hOz hBz hbz hss hnd hnu hRr hRBr
    go_wp2_with fail
    refine wp_region_HS (fun w'=>w'.cell? ⟨E.rp,3,none⟩=some (.slice V.dA nd V.dc)∧w'.cell? ⟨E.rp,4,none⟩=some (.slice E.uA nu E.uc)) [] [true,true,true,true,true,true,true,true,true,true,false,false,false] (by kernel_rfl) (by kernel_rfl) rfl (by kernel_rfl) ?_
    have hS0:wr.drew.cell? ⟨E.rp,3,none⟩=some (.slice V.dA nd V.dc)∧wr.drew.cell? ⟨E.rp,4,none⟩=some (.slice E.uA nu E.uc):=⟨c3,c4⟩
    iterate 10(refine wpHS_soft rfl hS0 (by intro w' hSw;obtain⟨hs1,hs2⟩:=hSw;go_simp;rfl) ?_;simp only[Act.put,sA,sZ,sC])
    refine wpHS_skip (w':=(wr.drew.setCell ⟨w.heap.size+1,0,none⟩ (.slice V.dA nd V.dc)).setCell ⟨w.heap.size+1,1,none⟩ (.slice E.uA nu E.uc)) rfl (by go_simp) (fun _=>⟨by go_simp,by go_simp⟩) ?_;simp only[Act.put]
    iterate 2(refine wpHS_run (w':=(wr.drew.setCell ⟨w.heap.size+1,0,none⟩ (.slice V.dA nd V.dc)).setCell ⟨w.heap.size+1,1,none⟩ (.slice E.uA nu E.uc)) rfl (by go_simp;rfl) (fun _=>⟨by go_simp,by go_simp⟩) ?_;simp only[Act.put,sA,sZ,sC])
    refine wpHS_nil ?_;clear hS0 r0 r1 g0 g1 c3 c4
    generalize (wr.drew.setCell ⟨w.heap.size+1,0,none⟩ (.slice V.dA nd V.dc)).setCell ⟨w.heap.size+1,1,none⟩ (.slice E.uA nu E.uc)=WZ at HEND HBZ ⊢
    have r0:=HBZ.out.cell 0;have r1:=HBZ.out.cell 1
    go_wp2_with fail
    try simp only[Exit.inBlock,Exit.then]
    refine bodyPost_ret (v:=.tuple #[.agg #[.slice V.dA nd V.dc,.slice E.uA nu E.uc],.slice Aw i cw,.int .i64 0]) (by simp[results,Tryz.results12,go_sem,r0,r1]) rfl ?_;exact HEND.out
end Go.Proofs.YtoepemlnlpamlaaGreat
namespace Go.Proofs.YtoepemlnlpamlaaGreat
set_option maxRecDepth 100000
set_option maxHeartbeats 4000000
open Go.RowKit
theorem lookM_cons {K:Type} [DecidableEq K] (x:K × Value) (m:List (K × Value)) (k:K):lookM (x :: m) k=if k=x.1 then some x.2 else lookM m k:=by
 unfold lookM;rw[posM]
 by_cases h:k=x.1
 ·rw[if_pos h,if_pos h];rfl
 ·rw[if_neg h,if_neg h]
  have:=posM_shift k m 1 0;rw[Nat.add_zero]at this;rw[this]
  cases posM k m 0 <;> rfl
theorem VisAt.look {w:World} {base:Nat} {ub:Option Nat} (k:Int):∀ {l:List (Int × List Int)} {vals:List (Int × Value)},VisAt w base ub l vals →
 ∃ v,(lookM vals k).getD (.slice none 0 0)=v∧OwnS w base 3 1 v ((lookL l k).getD []).length (ivs ((lookL l k).getD []))
 | [],vals,h=>by
  have:vals = []:=h;subst this;exact⟨_,rfl,OwnS.nil _ _ _ _⟩
 | x :: l,vals,⟨v,vs,h1,h2,h3,h4⟩=>by
  subst h1;rw[lookM_cons,lookL]
  by_cases hk:k=x.1
  ·rw[if_pos hk,if_pos hk]
   exact⟨v,rfl,h2⟩
  ·rw[if_neg hk,if_neg hk]
   exact VisAt.look k h4
theorem zero_ints (w:World):(zeroValue 28).run Tryz.prog w = .ok (.slice none 0 0) w:=by go_simp
def visibleM (t:Tree) (k:Int):List Int:=if validM t then (lookL (resolveM t).vis k).getD [] else []
theorem Visible_any (t:Tree) (A:Option Addr) (c:Nat) (num:Int) (w:World) (hN:countM t≤1000000) (hcap:t.kids.length≤c) (hk:KidsAt w w.heap.size A 0 t.kids) :
 Calls Tryz.prog 17 #[nodeV t A c,.int .i64 num] w fun e w' => ∃ v,e = .returned v∧OwnS w' w.heap.size 3 1 v (visibleM t num).length (ivs (visibleM t num))∧Below w.heap.size w w':=by
 obtain⟨k0,x0,a0,z0,n0,-,-,-,-,-,hnv⟩:=node_named t A c
 obtain⟨W1,hW1⟩:∃ W1,w.alloc (.cells #[.int .i64 k0,.string x0,.int .i64 a0,.int .i64 z0,.slice A n0 c] 24)=W1:=⟨_,rfl⟩
 have hnb:Blk W1 w.heap.size 24 #[.int .i64 k0,.string x0,.int .i64 a0,.int .i64 z0,.slice A n0 c]:=by rw[← hW1];exact Blk.new w _ _
 have hb1:Below w.heap.size w W1:=by rw[← hW1];exact below_alloc w _
 have hval:=Valid_any t A c W1 (by omega) (KidsAt.mono hb1.size _ _ _ (KidsAt.below hb1 (Nat.le_refl _) _ _ _ hk));rw[hnv]at hval ⊢
 obtain⟨vb,hvb⟩:∃ q,validM t=q:=⟨_,rfl⟩
 obtain⟨Z,hZ⟩:∃ Z,visibleM t num=Z:=⟨_,rfl⟩
 rw[hZ];unfold visibleM at hZ;rw[hvb]at hval hZ;have HVAL:=kH hval;have HZ:=kH hZ;have HVB:=kH hvb;have HNB:=kH hnb;have HB1:=kH hb1;have HNV:=kH hnv;have HCAP:=kH hcap;have HK:=kH hk;have m0:=hnb.cell 0;have m1:=hnb.cell 1;have m2:=hnb.cell 2;have m3:=hnb.cell 3;have m4:=hnb.cell 4;have lm:=hnb.lt;clear hval hvb hnb hb1 hnv hcap hk hZ
 go_enter Tryz.func17,Tryz.ntmps17
 go_wp2_with fail
 clear hW1 m0 m1 m2 m3 m4 lm;refine HVAL.out.mono ?_;rintro e2 w2 ⟨rfl,hb2⟩;have HB2:Hid (Below w.heap.size w w2):=kH (HB1.out.trans (hb2.mono HB1.out.size));have HNB2:=kH (HNB.out.below hb2 HNB.out.lt);clear hb2
 cases vb with
 | false =>
  have hz:Z = []:=by rw[← HZ.out];rfl
  subst hz
  go_wp2_with fail
  go_ret
  exact⟨_,rfl,OwnS.nil _ _ _ _,HB2.out⟩
 | true =>
  have hres:=resolve_any t A c w2 (valid_vok HVB.out) hN HCAP.out (KidsAt.mono HB2.out.size _ _ _ (KidsAt.below HB2.out (Nat.le_refl _) _ _ _ HK.out));rw[HNV.out]at hres;have HRES:=kH hres;have m0:=HNB2.out.cell 0;have m1:=HNB2.out.cell 1;have m2:=HNB2.out.cell 2;have m3:=HNB2.out.cell 3;have m4:=HNB2.out.cell 4;have lm:=HNB2.out.lt;clear hres
  go_wp2_with fail
  clear m0 m1 m2 m3 m4 lm;refine HRES.out.mono ?_;rintro e3 w3 ⟨E,V,rfl,hEb,hR3,hb3⟩;have hlk:=run_lookup_am (P:=Tryz.prog) (KK:=intK) (t:=72) (kt:=3) (et:=28) Tryz.underlying72 Tryz.underlying3 zero_ints hR3.vi num;obtain⟨v,hv,ho⟩:=VisAt.look num hR3.vis;rw[hv]at hlk;change (Instr.lookup 72 (.map (some E.vi)) (.int .i64 num) false).run Tryz.prog w3=_ at hlk
  have hz:(lookL (resolveM t).vis num).getD [] = Z:=by rw[← HZ.out];rfl
  rw[hz]at ho;have c5:w3.cell? ⟨E.rp,5,none⟩=some (.map (some E.vi)):=hR3.blk.cell 5;have lr:=hR3.blk.lt;have HO:Hid (OwnS w3 w.heap.size 3 1 v Z.length (ivs Z)):=kH (ho.mono (by rw[hEb];exact HB2.out.size));have HB3:Hid (Below w.heap.size w w3):=kH (HB2.out.trans (hb3.mono HB2.out.size));clear hEb hR3 hb3 hv ho hz HRES
  go_wp2_with fail
  go_ret
  exact⟨v,rfl,HO.out,HB3.out⟩
end Go.Proofs.YtoepemlnlpamlaaGreat
namespace Go.Proofs.YtoepemlnlpamlaaGreat
set_option maxRecDepth 100000
set_option maxHeartbeats 4000000
theorem bab (k j:ByteArray):(k == j)=decide (k=j):=by
 obtain⟨a⟩:=k;obtain⟨b⟩:=j;show (a == b)=_;rw[Bool.eq_iff_iff];simp
instance lawfulBA:LawfulBEq ByteArray where
 eq_of_beq {a b} h:=by
  rw[bab]at h;exact of_decide_eq_true h
 rfl {a}:=by
  rw[bab];simp
def addN (t:Tree) (S:List (List ByteArray)):List (List ByteArray):=if t.kind=12 then (match S with | []=>[] | l :: S=>(l ++ [t.text]) :: S) else S
theorem freesM_cons (k:Int) (x:ByteArray) (t:Tree) (ts:List Tree) (i:Nat) (S:List (List ByteArray)) (out:List ByteArray) :
 freesM k x (t :: ts) i S out=freesM k x ts (i+1) (addN t S) (freeM t (if k=16∧i=2 then [x] :: S else S) out):=by
 first | rfl | (rw[freesM.eq_def];rfl)
end Go.Proofs.YtoepemlnlpamlaaGreat
namespace Go.Proofs.YtoepemlnlpamlaaGreat
set_option maxRecDepth 100000
set_option maxHeartbeats 4000000
open Go.RowKit
def FX (base ob:Nat) (M:Nat→Prop) (w w':World):Prop:=Since (fun g=>(g=ob∨(base≤g∧∃ cs fr,w.heap[g]? = some (.cells cs 9 fr)))∨M g) w w'
section
variable {base ob:Nat} {M M':Nat→Prop} {w w1 w':World}
theorem FX.refl (base ob:Nat) (M:Nat→Prop) (w:World):FX base ob M w w:=Since.refl _ _
theorem FX.trans (h:FX base ob M w w1) (k:FX base ob M' w1 w') (hM:∀ g,M' g→M g∨w.heap.size≤g):FX base ob M w w':=by
 refine⟨k.os.trans h.os,k.tape.trans h.tape,k.output.trans h.output,Nat.le_trans h.size k.size,fun g hg hn=>?_⟩;have h1:=h.block g hg hn
 have h2:=k.block g (Nat.lt_of_lt_of_le hg h.size) (fun h3=>hn (by
  rcases h3 with (h3 | ⟨h4,cs,fr,h5⟩) | h3
  ·exact .inl (.inl h3)
  ·exact .inl (.inr ⟨h4,cs,fr,by rw[← h1];exact h5⟩)
  ·rcases hM g h3 with h6 | h6
   ·exact .inr h6
   ·omega))
 rw[h2,h1]
theorem FX.of_below (hb:Below w.heap.size w w'):FX base ob M w w':=(Since.refl _ _).below hb
theorem FX.map_ (h:Since M w w'):FX base ob M w w':=Since.mono h fun _ h1=>.inr h1
theorem FX.low (h:FX base ob M w w') {B:Nat} (hB:B≤w.heap.size) (h1:B≤ob) (h2:B≤base) (hM:∀ g,M g→B≤g):Below B w w':=Since.toBelow h hB fun g hg=>by
 rcases hg with (hg | hg) | hg
 ·omega
 ·exact Nat.le_trans h2 hg.1
 ·exact hM g hg
theorem FX.blk (h:FX base ob M w w') {g:Nat} {t:TypeId} {cs:Array Value} (hb:Blk w g t cs) (ht:t≠9) (ho:g≠ob) (hM:¬ M g):Blk w' g t cs:=by
 refine Blk.since hb h fun h1=>?_
 rcases h1 with (h1 | ⟨-,cs',fr,h1⟩) | h1
 ·exact ho h1
 ·have e2:w.heap[g]? = some (Obj.cells _ _ (0,0)):=hb
  rw[e2]at h1;simp only[Option.some.injEq,Obj.cells.injEq]at h1;exact ht h1.2.1
 ·exact hM h1
theorem FX.amap (h:FX base ob M w w') {K:Type} [DecidableEq K] {KK:KeyK K} {r:Nat} {m:List (K × Value)} (ha:AMap KK w r m) {t:TypeId} {cs:Array Value} (hob:Blk w ob t cs) (hM:¬ M r):AMap KK w' r m:=by
 refine ha.since h fun h1=>?_
 rcases h1 with (h1 | ⟨-,cs',fr,h1⟩) | h1
 ·exact ha.not_blk hob h1
 ·obtain⟨es,ck,ho⟩:=ha.isMap
  rw[ho]at h1
  cases h1
 ·exact hM h1
theorem Blk.ne_of {g g':Nat} {t t':TypeId} {cs cs':Array Value} (h:Blk w g t cs) (h':Blk w g' t' cs') (ht:t≠t'):g≠g':=fun e=>by
 have e1:w.heap[g]? = some (Obj.cells _ _ (0,0)):=h;have e2:w.heap[g']? = some (Obj.cells _ _ (0,0)):=h';rw[e,e2]at e1;simp only[Option.some.injEq,Obj.cells.injEq]at e1;exact ht e1.2.1.symm
theorem FX.sc (h:FX base ob M w w') {cs:Array Value} (hob:Blk w ob 41 cs) (hMb:∀ g t cs,Blk w g t cs→¬ M g):∀ {s:Scope} {p:Option Addr} {ms:List Nat},ScAt w base p s ms→(∀ m ∈ ms,¬ M m)→ScAt w' base p s ms
 | [],_,_,hs,_=>hs
 | _ :: _,_,_,⟨b,m,p',ms',h1,h2,h3,h4,h5,h6,h7⟩,hms=>by
  subst h2;exact⟨b,m,p',ms',h1,rfl,h3,h4,h.blk h5 (by decide) (h5.ne_of hob (by decide)) (hMb _ _ _ h5),h.amap h6 hob (hms m (by simp)),FX.sc h hob hMb h7 fun x hx=>hms x (by simp[hx])⟩
end
theorem strg_info:(Tryz.prog.info? 9).map (fun i=>(i.zero,i.size,i.bytes))=some (some (.string ⟨#[]⟩),1,16):=by kernel_rfl
def OutAt (base ob:Nat) (out:List ByteArray) (w:World):Prop:=∃ A n c,Blk w ob 41 #[.slice A n c]∧OwnS w base 9 1 (.slice A n c) n (out.flatMap strCells)
theorem OutAt.below {base ob:Nat} {out:List ByteArray} {w w':World} (h:OutAt base ob out w) (hb:Below w.heap.size w w'):OutAt base ob out w':=by
 obtain⟨A,n,c,h1,h2⟩:=h;exact⟨A,n,c,h1.below hb h1.lt,h2.below hb fun g hg=>(h2.lt g hg).2⟩
def addF (s:Scope) (x:ByteArray) (out:List ByteArray):List ByteArray:=if (findS s x).isSome || hasA out x then out else out ++ [x]
theorem strs_len (l:List ByteArray):(l.flatMap strCells).length=l.length:=by
 induction l with
 | nil=>rfl
 | cons a l ih=>rw[List.flatMap_cons,List.length_append,ih,List.length_cons];simp[strCells];omega
theorem add_any (base ob:Nat) (out:List ByteArray) (s:Scope) (p:Option Addr) (ms:List Nat) (x:ByteArray) (w:World) (hs:ScAt w base p s ms) (ho:OutAt base ob out w) (hb:base≤w.heap.size) (hm:out.length≤1000000) :
 Calls Tryz.prog 44 #[.string x,.pointer p,.pointer (some ⟨ob,0,none⟩)] w fun e w'=>e = .returned (.tuple #[])∧OutAt base ob (addF s x out) w'∧FX base ob (fun _=>False) w w':=by
 obtain⟨i0,hi0,hz0,hz1,hz2⟩:=info_parts strg_info;have hf:=find_any base x w s p ms hs;obtain⟨A,n,c,hblk,hown⟩:=ho
 have hn:n=out.length:=by have:=hown.1;rw[strs_len]at this;omega
 unfold addF
 generalize findS s x=fo at hf ⊢
 obtain⟨hb0,hhb⟩:∃ q,hasA out x=q:=⟨_,rfl⟩
 rw[hhb];have hcon:=containsS_any A n c out x w (hown.rowAt (cells:=strCells) (l:=out) rfl rfl (fun _ _=>rfl) hn.symm) hn.symm (by omega);rw[hhb]at hcon;have c0:=hblk.cell 0;have f0:=hblk.frozen 0;have lo:=hblk.lt;have HF:=kH hf;have HC:=kH hcon;have HB:=kH hblk;have HO:=kH hown;have HN:=kH hn;clear hf hcon hblk hown hhb hs hn
 cases fo with
 | some y =>
  simp only[Option.isSome_some,Bool.true_or,if_true]at HF ⊢
  go_enter Tryz.func44,Tryz.ntmps44
  go_wp2_with fail
  refine HF.out.mono ?_;rintro e w2 ⟨rfl,hw2⟩;obtain rfl:w=w2:=hw2.symm
  go_wp2_with fail
  go_end0
  exact⟨rfl,⟨A,n,c,HB.out,HO.out⟩,FX.refl _ _ _ _⟩
 | none =>
  simp only[Option.isSome_none,Bool.false_or]at HF ⊢
  cases hb0 with
  | true =>
   simp only[if_true]
   go_enter Tryz.func44,Tryz.ntmps44
   go_wp2_with fail
   refine HF.out.mono ?_;rintro e w2 ⟨rfl,hw2⟩;obtain rfl:w=w2:=hw2.symm
   go_wp2_with fail
   refine HC.out.mono ?_;rintro e w2 ⟨rfl,hw2⟩;subst hw2
   go_wp2_with fail
   go_end0
   exact⟨rfl,⟨A,n,c,HB.out,HO.out⟩,FX.refl _ _ _ _⟩
  | false =>
   simp only[Bool.false_eq_true,if_false]
   have hnm:n≤1000000:=by have:=HN.out;omega
   go_enter Tryz.func44,Tryz.ntmps44
   go_wp2_with fail
   refine HF.out.mono ?_;rintro e w2 ⟨rfl,hw2⟩;obtain rfl:w=w2:=hw2.symm
   go_wp2_with fail
   refine HC.out.mono ?_;rintro e w2 ⟨rfl,hw2⟩;subst hw2
   go_wp2_with (at_builtin;go_must (refine wpList_append_S _ rfl (.tmp 21) (.tmp 23) _ rfl base 9 i0 _ 1 16 Tryz.underlying41 hi0 hz0 hz1 hz2 rfl (.slice A n c) n (out.flatMap strCells) rfl (HO.out.alloc _) ⟨_,0,none⟩ 1 1 [.string x] rfl rfl (news_one _ _ _ (by go_simp)) (by simp[Value.oneCell']) (by simp only[maxLen];omega) (by omega) (by simp;omega) ?_);intro vn w6 hown hgrow hat;obtain⟨A6,c6,hvn,-,-⟩:=hown.shape;subst hvn;have HOWN:=kH hown;have HGROW:=kH hgrow;have hB6:=Blk.grown (Blk.alloc HB.out _) hgrow (fun e1=>HO.out.ne_blk HB.out (by decide) e1.symm);have q4:=hB6.cell 0;have q5:=hB6.frozen 0;have q6:=hB6.lt;have HB6:=kH hB6;clear hown hgrow hat hB6)
   go_end0
   refine⟨rfl,⟨A6,n+1,c6,?_,?_⟩,?_⟩
   ·have:=HB6.out.set_ 0 (.slice A6 (n+1) c6)
    simpa using this
   ·have h1:=HOWN.out.setCell (p:=⟨ob,0,none⟩) (HOWN.out.ne_blk HB6.out (by decide)) (.slice A6 (n+1) c6)
    rw[List.flatMap_append];exact h1
   ·have h0:=HO.out
    refine Since.setCell (S:=fun g=>(g=ob∨(base≤g∧∃ cs fr,w.heap[g]? = some (.cells cs 9 fr)))∨False) ((Since.alloc (Since.refl _ w) _).grown HGROW.out (fun g hg=>.inl (.inl (.inr ?_)))) (p:=⟨ob,0,none⟩) (.inl (.inl (.inl rfl))) _;obtain⟨cur,hc⟩:=h0.obj g hg;exact⟨(h0.lt g hg).1,cur,(0,0),hc⟩
end Go.Proofs.YtoepemlnlpamlaaGreat
