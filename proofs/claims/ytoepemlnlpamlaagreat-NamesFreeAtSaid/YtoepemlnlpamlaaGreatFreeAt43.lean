/- The law NamesFreeAt holds: for every text and every number the law returns true, and its arguments read as before. No condition. Part 43: LawF Row HoldF. -/
import Derived.Test.YtoepemlnlpamlaaGreatRows
import Derived.ProofKit
import Derived.Below
import Derived.ChangeSame
import Derived.Lib.SmallJoins
import Derived.ChangeMaps5
import Derived.Test.YtoepemlnlpamlaaGreatFreeAt37
import Derived.Test.YtoepemlnlpamlaaGreatFreeAt39
import Derived.Test.YtoepemlnlpamlaaGreatFreeAt42
namespace Go.Proofs.YtoepemlnlpamlaaGreat
set_option maxRecDepth 100000
set_option maxHeartbeats 4000000
open Go.RowKit
theorem lookM_setM {K:Type} [DecidableEq K] (k:K) (v:Value):∀ (m:List (K × Value)) (x:K),lookM (setM m k v) x=if x=k then some v else lookM m x
 | [],x=>by
  have:setM ([]:List (K × Value)) k v = [(k,v)]:=rfl;rw[this,lookM_cons]
 | y :: m,x=>by
  by_cases h:k=y.1
  ·rw[setM_cons_eq y m k v h,lookM_cons,lookM_cons]
   by_cases hx:x=k
   ·rw[if_pos hx,if_pos hx]
   ·rw[if_neg hx,if_neg hx,if_neg (fun e=>hx (e.trans h.symm))]
  ·rw[setM_cons_ne y m k v h,lookM_cons,lookM_cons,lookM_setM k v m x]
   by_cases hx:x=k
   ·subst hx
    rw[if_neg h,if_pos rfl,if_pos rfl]
   ·rw[if_neg hx,if_neg hx]
mutual
theorem nodesM_count:∀ (t:Tree) {y:Tree},y ∈ nodesM t→countM y≤countM t
 | .node k x a e kids,y,h=>by
  rw[nodesM,List.mem_cons]at h
  rcases h with rfl | h
  ·exact Nat.le_refl _
  ·have:=nodesL_count kids h
   simp only[countM];omega
theorem nodesL_count:∀ (ts:List Tree) {y:Tree},y ∈ nodesL ts→countM y≤countsM ts
 | [],y,h=>by cases h
 | t :: ts,y,h=>by
  rw[nodesL,List.mem_append]at h;simp only[countsM]
  rcases h with h | h
  ·have:=nodesM_count t h
   omega
  ·have:=nodesL_count ts h
   omega
end
theorem path_cells:∀ (p:List Nat),pathV p=p.flatMap natCells
 | []=>rfl
 | i :: p=>by
  rw[List.flatMap_cons,← path_cells p];rfl
theorem Path_gen (t:Tree) (A:Option Addr) (c:Nat) (num:Int) (w:World) (hN:countM t≤1000000) (hcap:t.kids.length≤c) (hk:KidsAt w w.heap.size A 0 t.kids) :
 Calls Tryz.prog 23 #[nodeV t A c,.int .i64 num] w fun e w' => ∃ (p:List Nat) (y:Tree) (PA:Option Addr) (pn pc:Nat) (is:Bool),e = .returned (.tuple #[.slice PA pn pc,.bool is])∧p.length=pn∧pn≤1000000∧follow t p=some y∧RowAt 1 natCells w' w'.heap.size PA p∧(is=true→∃ m:Nat,num=(m:Int)∧(nodesM t)[m]? = some y)∧Below w.heap.size w w':=by
 refine(Path_any t A c num w hN hcap hk).mono fun e w' h=>?_
 rcases h with ⟨rfl,hb,-⟩ | ⟨m,p,y,PA,pc,h1,h2,h3,h4,h5,h6,h7,-⟩
 ·exact⟨[],t,none,0,0,false,rfl,rfl,by omega,rfl,fun i x hi=>(by simp at hi),fun h=>(by cases h),hb⟩
 ·exact⟨p,y,PA,p.length,pc,true,h2,rfl,h5,h4,h6.rowAt (cells:=natCells) (l:=p) rfl (path_cells p) (fun _ _=>rfl) rfl,fun _=>⟨m,h1,h3⟩,h7⟩
theorem Resolve_gen (t:Tree) (A:Option Addr) (c:Nat) (w:World) (hN:countM t≤1000000) (hcap:t.kids.length≤c) (hk:KidsAt w w.heap.size A 0 t.kids) :
 Calls Tryz.prog 12 #[nodeV t A c] w fun e w' => ∃ (dA:Option Addr) (nd dc:Nat) (uA:Option Addr) (nu uc:Nat) (Aw:Option Addr) (nw cw:Nat) (er:Int),e = .returned (.tuple #[.agg #[.slice dA nd dc,.slice uA nu uc],.slice Aw nw cw,.int .i64 er])∧(er=0→validM t=true∧nd=(resolveM t).ds.length∧nw=(resolveM t).probs.length∧OwnS w' w.heap.size 49 4 (.slice dA nd dc) nd ((resolveM t).ds.flatMap dcCells))∧Below w.heap.size w w':=by
 refine(Resolve_any t A c w hN hcap hk).mono fun e w' h=>?_
 rcases h with ⟨-,rfl,hb⟩ | ⟨hv,E,V,An,nw,cw,rfl,hE,hR,hnw,-,hb⟩
 ·exact⟨none,0,0,none,0,0,none,0,0,1,rfl,fun h=>(by simp at h),hb⟩
 ·exact⟨V.dA,_,V.dc,E.uA,_,E.uc,An,nw,cw,0,rfl,fun _=>⟨hv,rfl,hnw,hR.ds.mono hE⟩,hb⟩
theorem lawFree_any (s:ByteArray) (num:Int) (w:World):Calls Tryz.prog 7 #[.string s,.int .i64 num] w fun e w'=>e = .returned (.bool true)∧Below w.heap.size w w':=by
 have HT:=kH (tree_any s);have HAWK:=kH awake_any;have hmm:=@run_makeMap Tryz.prog
 go_enter Tryz.func7,Tryz.ntmps7
 go_wp2_with fail
 refine(HT.out _).mono ?_;rintro e1 w1 ⟨t,A,c,ok,rfl,hcn,hcap,hk,hb1⟩
 have hpath0:∀ W,Below w1.heap.size w1 W→Calls Tryz.prog 23 #[nodeV t A c,.int .i64 num] W _:=fun W hb=>Path_gen t A c num W hcn hcap (KidsAt.mono hb.size _ _ _ (KidsAt.below hb (Nat.le_refl _) _ _ _ hk))
 have hres0:∀ W,Below w1.heap.size w1 W→Calls Tryz.prog 12 #[nodeV t A c] W _:=fun W hb=>Resolve_gen t A c W hcn hcap (KidsAt.mono hb.size _ _ _ (KidsAt.below hb (Nat.le_refl _) _ _ _ hk))
 have hget0:∀ W,Below w1.heap.size w1 W→∀ (y:Tree) (p:List Nat) (PA:Option Addr) (pc:Nat),p.length≤1000000→RowAt 1 natCells W W.heap.size PA p→follow t p=some y→Calls Tryz.prog 24 #[nodeV t A c,.slice PA p.length pc] W _:=fun W hb y p PA pc hpl hrow hf=>Get_any t y A c p PA pc W hcap hpl (KidsAt.mono hb.size _ _ _ (KidsAt.below hb (Nat.le_refl _) _ _ _ hk)) hrow hf
 have hvis0:∀ W,Below w1.heap.size w1 W→Calls Tryz.prog 17 #[nodeV t A c,.int .i64 num] W _:=fun W hb=>Visible_any t A c num W hcn hcap (KidsAt.mono hb.size _ _ _ (KidsAt.below hb (Nat.le_refl _) _ _ _ hk))
 obtain⟨k0,x0,a0,z0,n0,hk0,hx0,ha0,hz0',hn0,hnv⟩:=node_named t A c;rw[hnv]at hpath0 hres0 hget0 hvis0 ⊢
 obtain⟨W1,hW1⟩:∃ W1,w1.alloc (.cells #[.int .i64 k0,.string x0,.int .i64 a0,.int .i64 z0,.slice A n0 c] 24)=W1:=⟨_,rfl⟩
 have hbW:Below w1.heap.size w1 W1:=by rw[← hW1];exact below_alloc _ _
 have hNW:Blk W1 w1.heap.size 24 #[.int .i64 k0,.string x0,.int .i64 a0,.int .i64 z0,.slice A n0 c]:=by rw[← hW1];exact Blk.new _ _ _
 have HPATH:=kH hpath0;have HRES:=kH hres0;have HGET:=kH hget0;have HVIS:=kH hvis0;have HCN:=kH hcn;have HB1:=kH hb1;have HBW:=kH hbW;have HNW:=kH hNW;have n0':=hNW.cell 0;have n1:=hNW.cell 1;have n2:=hNW.cell 2;have n3:=hNW.cell 3;have n4:=hNW.cell 4;have ln:=hNW.lt;clear hpath0 hres0 hget0 hvis0 hcn hcap hk hb1 hbW hNW hk0 hx0 ha0 hz0' hn0 hnv
 go_wp2_with (rw[hW1])
 clear n0' n1 n2 n3 n4 ln hW1;refine(HRES.out _ HBW.out).mono ?_;rintro e2 w2 ⟨dA,nd,dc,uA,nu,uc,Aw,nw,cw,er,rfl,hR,hb2⟩
 obtain⟨nb,hnb⟩:∃ q,w1.heap.size=q:=⟨_,rfl⟩
 obtain⟨rb,hrb⟩:∃ q,w2.heap.size=q:=⟨_,rfl⟩
 obtain⟨R1,hR1⟩:∃ R1,w2.alloc (.cells #[.slice dA nd dc,.slice uA nu uc] 30)=R1:=⟨_,rfl⟩
 have hbR:Below w2.heap.size w2 R1:=by rw[← hR1];exact below_alloc _ _
 have hRR:Blk R1 rb 30 #[.slice dA nd dc,.slice uA nu uc]:=by rw[← hR1,← hrb];exact Blk.new _ _ _
 have hNR:Blk R1 nb 24 #[.int .i64 k0,.string x0,.int .i64 a0,.int .i64 z0,.slice A n0 c]:=by rw[← hnb];exact(HNW.out.below hb2 HNW.out.lt).below hbR (HNW.out.below hb2 HNW.out.lt).lt
 have HBN:Hid (Below w1.heap.size w1 R1):=kH (HBW.out.trans ((hb2.trans (hbR.mono hb2.size)).mono HBW.out.size))
 have HDS:Hid (er=0→validM t=true∧nd=(resolveM t).ds.length∧nw=(resolveM t).probs.length∧OwnS R1 W1.heap.size 49 4 (.slice dA nd dc) nd ((resolveM t).ds.flatMap dcCells)):=kH fun h=>by
  obtain⟨h1,h2,h3,h4⟩:=hR h;exact⟨h1,h2,h3,h4.below hbR (fun g hg=>(h4.lt g hg).2)⟩
 have HRR:=kH hRR;have HNR:=kH hNR;have m0:=hNR.cell 0;have m1:=hNR.cell 1;have m2:=hNR.cell 2;have m3:=hNR.cell 3;have m4:=hNR.cell 4;have lm:=hNR.lt;rw[hnb];clear hR hb2 hbR hRR hNR HRES HNW
 go_wp2_with (first | rw[hR1] | rw[hrb])
 refine(HPATH.out _ HBN.out).mono ?_;rintro e3 w3 ⟨p,y,PA,pn,pc,is,rfl,hpn,hpl,hf,hrow,his,hb3⟩;have HB3:Hid (Below w1.heap.size w1 w3):=kH (HBN.out.trans (hb3.mono HBN.out.size));have hget:=HGET.out _ HB3.out y p PA pc (by omega) hrow hf;rw[hpn]at hget;have HGT:=kH hget;have hN3:=HNR.out.below hb3 HNR.out.lt;have hR3:=HRR.out.below hb3 HRR.out.lt;have HN3:=kH hN3;have HR3:=kH hR3;have HIS:=kH his;have HB23:=kH hb3;have g0:=hN3.cell 0;have g1:=hN3.cell 1;have g2:=hN3.cell 2;have g3:=hN3.cell 3;have g4:=hN3.cell 4;have lg:=hN3.lt;clear hget hN3 hR3 hrow hf his hpl hpn hb3 m0 m1 m2 m3 m4 lm HPATH HGET
 go_wp2_with fail
 refine HGT.out.mono ?_;rintro e4 w4 ⟨Ay,cy,rfl,hKy,hcy,hb4⟩;obtain⟨ky,xy,ay,zy,ny,hky,hxy,hay,hzy,hny,hnvy⟩:=node_named y Ay cy;rw[hnvy]
 obtain⟨xb,hxb⟩:∃ q,w4.heap.size=q:=⟨_,rfl⟩
 obtain⟨X1,hX1⟩:∃ X1,w4.alloc (.cells #[.int .i64 ky,.string xy,.int .i64 ay,.int .i64 zy,.slice Ay ny cy] 24)=X1:=⟨_,rfl⟩
 have hbX:Below w4.heap.size w4 X1:=by rw[← hX1];exact below_alloc _ _
 have hXX:Blk X1 xb 24 #[.int .i64 ky,.string xy,.int .i64 ay,.int .i64 zy,.slice Ay ny cy]:=by rw[← hX1,← hxb];exact Blk.new _ _ _
 have hb3X:Below w3.heap.size w3 X1:=hb4.trans (hbX.mono hb4.size);have hNX:=HN3.out.below hb3X HN3.out.lt;have hRX:=HR3.out.below hb3X HR3.out.lt;have HX1:Hid (Below w1.heap.size w1 X1):=kH (HB3.out.trans (hb3X.mono HB3.out.size));have HBX:Hid (Below w.heap.size w X1):=kH (HB1.out.trans (HX1.out.mono HB1.out.size));have HKY:Hid (KidsAt w3 w3.heap.size Ay 0 y.kids∧nodeV y Ay cy = .agg #[.int .i64 ky,.string xy,.int .i64 ay,.int .i64 zy,.slice Ay ny cy]∧y.kind=ky∧Below w3.heap.size w3 X1):=kH ⟨hKy,hnvy,hky,hb3X⟩;have HRX:Hid (Below R1.heap.size R1 X1):=kH (HB23.out.trans (hb3X.mono HB23.out.size));have HNX:=kH hNX;have HRB:=kH hRX;have HXX:=kH hXX;have q0:=hXX.cell 0;have lq:=hXX.lt;clear hKy hcy hky hxy hay hzy hny hnvy hbX hXX hb3X hNX hRX hb4 g0 g1 g2 g3 g4 lg HGT;have hwX:w4.alloc (.cells #[.int .i64 ky,.string xy,.int .i64 ay,.int .i64 zy,.slice Ay ny cy] 24)=X1:=hX1;clear hX1
 by_cases hgo:ok=true∧er=0∧nw=0∧is=true
 ·obtain⟨rfl,rfl,rfl,rfl⟩:=hgo
  obtain⟨m,rfl,hym⟩:=HIS.out rfl;have HYM:=kH hym;have HDS1:=kH (HDS.out rfl);clear HIS HDS hym
  go_wp2_with (first | rw[hwX] | rw[hxb])
  refine(IsStatement_any ky X1).mono ?_;rintro e5 w5 ⟨rfl,hb5⟩
  obtain⟨bs,hbs⟩:∃ q,(decide (12≤ky) && decide (ky≤19))=q:=⟨_,rfl⟩
  rw[hbs];have HBX5:Hid (Below w.heap.size w w5):=kH (HBX.out.trans (hb5.mono HBX.out.size))
  cases bs with
  | false =>
   clear hbs hb5 hwX
   go_wp2_with fail
   refine(HAWK.out _).mono ?_;rintro e9 w9 ⟨rfl,hb9⟩;have HB9:Hid (Below w.heap.size w w9):=kH (HBX5.out.trans (hb9.mono HBX5.out.size));clear hb9
   go_wp2_with fail
   go_ret
   exact⟨rfl,HB9.out⟩
  | true =>
   have hkind:12≤ky:=by
    rw[Bool.and_eq_true]at hbs;exact of_decide_eq_true hbs.1
   have hy:=HYM.out;obtain⟨hv,hnd,hnw,hO⟩:=HDS1.out;have hlaw:=free_law hv (List.eq_nil_of_length_eq_zero hnw.symm) hy (by rw[HKY.out.2.2.1];omega)
   have hvm:visibleM t (m:Int)=(lookL (resolveM t).vis (m:Int)).getD []:=by unfold visibleM;rw[hv];rfl
   rw[← hvm]at hlaw
   obtain⟨vs,hvs⟩:∃ q,visibleM t (m:Int)=q:=⟨_,rfl⟩
   obtain⟨ds,hds⟩:∃ q,(resolveM t).ds=q:=⟨_,rfl⟩
   obtain⟨ws,hws⟩:∃ q,freeM y [] [] = q:=⟨_,rfl⟩
   rw[hvs,hds,hws]at hlaw;rw[hds]at hO hnd
   obtain⟨mp,hmp⟩:∃ q,w5.heap.size=q:=⟨_,rfl⟩
   obtain⟨M6,hM6⟩:∃ M6,w5.alloc (.map #[] 0)=M6:=⟨_,rfl⟩
   have hb6:Below X1.heap.size X1 M6:=by rw[← hM6];exact hb5.trans ((below_alloc w5 _).mono hb5.size)
   have ham:AMap strK M6 mp []:=by rw[← hM6,← hmp];exact AMap.made w5
   have HAM:=kH ham;have HLAW:=kH hlaw;have HB6:=kH hb6;have HND:=kH hnd;have HWS:=kH hws;have HVS:=kH hvs;have hOX:OwnS X1 W1.heap.size 49 4 (.slice dA nd dc) nd (ds.flatMap dcCells):=hO.below HRX.out (fun g hg=>(hO.lt g hg).2);have HOX:=kH hOX;have HMPX:Hid (X1.heap.size≤mp∧mp < M6.heap.size):=kH ⟨by rw[← hmp];exact hb5.size,ham.lt⟩;have hvc:=HVIS.out M6 (HX1.out.trans (hb6.mono HX1.out.size));rw[hvs]at hvc;have HVC:=kH hvc;have hN6:=HNX.out.below hb6 HNX.out.lt;have g0:=hN6.cell 0;have g1:=hN6.cell 1;have g2:=hN6.cell 2;have g3:=hN6.cell 3;have g4:=hN6.cell 4;have lg:=hN6.lt;clear hbs hb5 hy hv hnd hnw hO hlaw hvm hvs hds hws hb6 ham hOX hvc hN6 HVIS q0 lq hwX
   go_wp2_with (first | rw[hM6] | rw[hmp])
   refine HVC.out.mono ?_;rintro e7 w7 ⟨v7,rfl,hO7,hb7⟩;obtain⟨VA,vc,rfl,hl1,hl2⟩:=hO7.shape;have hl3:=Nat.le_trans hl1 hl2
   obtain⟨nv,hnv⟩:∃ q,vs.length=q:=⟨_,rfl⟩
   rw[hnv]at hO7 hl3 ⊢;have HNVB:=kH hl3;clear hl1 hl2 hl3;have HB7:Hid (Below X1.heap.size X1 w7):=kH (HB6.out.trans (hb7.mono HB6.out.size));have HAM7:=kH (HAM.out.below hb7 HMPX.out.2);have HO7:=kH hO7;have HNV:=kH hnv;clear hO7 hb7 hnv g0 g1 g2 g3 g4 lg
   go_wp2_with fail
   go_loopg [69] nv (fun gk s69 wr => ∃ (k:Nat) (L:List (ByteArray × Value)),s69 = .int .i64 (k:Int)∧k+gk=nv∧AMap strK wr mp L∧Since (fun g=>g=mp) w7 wr∧∀ q,q < k→∀ (j:Nat) (d:Dc),vs[q]? = some (j:Int)→ds[j]? = some d→lookM L d.name=some (.bool true))
   case atStart=>exact⟨0,[],rfl,by omega,HAM7.out,Since.refl _ _,fun q hq=>by omega⟩
   case round =>
    obtain⟨k,L,rfl,hkn,hamr,hsr,hseen⟩:=hrel;have hbr:Below X1.heap.size X1 wr:=HB7.out.trans (hsr.toBelow HB7.out.size (fun g hg=>by rw[hg];exact HMPX.out.1))
    have hkb:k≤nv:=by omega
    have HKN:=kH hkn;have HAMR:=kH hamr;have HSR:=kH hsr;have HSEEN:=kH hseen;have HBR:=kH hbr;clear hkn hseen
    by_cases hlt:k < nv
    ·obtain⟨z,hz⟩:∃ z,vs[k]? = some z:=⟨_,List.getElem?_eq_getElem (by rw[HNV.out];exact hlt)⟩
     obtain⟨hz0,hz1⟩:=HLAW.out.1 z (List.mem_of_getElem? hz);obtain⟨j,rfl⟩:=Int.eq_ofNat_of_zero_le hz0
     have hjd:j < ds.length:=by omega
     obtain⟨d,hd⟩:∃ d,ds[j]? = some d:=⟨_,List.getElem?_eq_getElem hjd⟩
     have hov:OwnS wr M6.heap.size 3 1 (.slice VA nv vc) nv (ivs vs):=HO7.out.since hsr (fun g hg hq=>by have:=(HO7.out.lt g hg).1;have:=HMPX.out.2;omega);obtain⟨vb,vo,hVA,hvb,hvc⟩:=hov.rowAt (cells:=intCells) (l:=vs) rfl (ivs_flat vs) (fun _ _=>rfl) HNV.out k _ hz;subst hVA;have hod:OwnS wr W1.heap.size 49 4 (.slice dA nd dc) nd (ds.flatMap dcCells):=HOX.out.below hbr (fun g hg=>(HOX.out.lt g hg).2);obtain⟨db,do',hDA,hdb,hdc⟩:=hod.rowAt (cells:=dcCells) (l:=ds) rfl rfl (fun _ _=>rfl) HND.out.symm j d hd;subst hDA;have hrr:=HRB.out.below hbr HRB.out.lt;have r0:=hrr.cell 0;have lr:=hrr.lt
     have v0:wr.cell? ⟨vb,vo+k,none⟩=some (.int .i64 (j:Int)):=by simpa using hvc 0 _ rfl
     have d1:wr.cell? ⟨db,do'+j * 4+1,none⟩=some (.string d.name):=by simpa using hdc 1 _ rfl
     obtain⟨w8,hrun,ham8,hg8,hz8⟩:=run_mapUpdate_am (P:=Tryz.prog) (KK:=strK) (t:=55) (kt:=9) (et:=4) Tryz.underlying55 Tryz.underlying9 hamr d.name (.bool true);change (Instr.mapUpdate 55 (.map (some mp)) (Value.string d.name) (.bool true)).run Tryz.prog wr=_ at hrun;have hs8:Since (fun g=>g=mp) w7 w8:=hsr.trans ((Since.refl (fun g=>g=mp) wr).grown hg8 (fun k hk=>by cases hk;exact .inl rfl));have HAM8:=kH ham8;have HS8:=kH hs8;have HD:=kH hd;have HZ:=kH hz
     have hjn:(j:Int) < (nd:Int):=by rw[HND.out];exact hz1
     have hj0:¬ ((j:Int) < 0):=by omega
     have hki:(k:Int) < (nv:Int):=by omega
     have hw1:IntKind.i64.wrap ((k:Int)+1)=(k:Int)+1:=IntWalk.i64_in _ (by have:=HNVB.out;simp only[maxLen]at this;omega);clear hz hd hov hod hvc hdc hrr hs8 ham8 hz0 hz1 hjd hamr hsr hbr hvb hdb hg8 hz8
     go_wp2_with fail
     go_roundg (gk - 1)
     case measure=>have:=HKN.out;omega
     case rel =>
      refine⟨k+1,setM L d.name (.bool true),by simp,by have:=HKN.out;omega,HAM8.out,HS8.out,fun q hq j' d' h1 h2=>?_⟩;rw[lookM_setM]
      by_cases hqk:q=k
      ·subst hqk
       rw[HZ.out]at h1
       have:j=j':=by have:=Option.some.inj h1;omega
       subst this;rw[HD.out]at h2
       cases h2
       rw[if_pos rfl]
      ·by_cases hx:d'.name=d.name
       ·rw[if_pos hx]
       ·rw[if_neg hx]
        exact HSEEN.out q (by omega) j' d' h1 h2
    ·have hke:k=nv:=by omega
     have hmap:∀ x ∈ ws,lookM L x=some (.bool true):=fun x hx=>by
      obtain⟨j,hjv,d,hd,rfl⟩:=HLAW.out.2 x hx;obtain⟨q,hq⟩:=List.mem_iff_getElem?.1 hjv;exact HSEEN.out q (by have:=(List.getElem?_eq_some_iff.1 hq).1;have h2:=HNV.out;omega) j d hq hd
     have hbr3:Below w3.heap.size w3 wr:=HKY.out.2.2.2.trans (hbr.mono HKY.out.2.2.2.size);have hcy:countM y≤1000000:=Nat.le_trans (nodesM_count t (List.mem_of_getElem? HYM.out)) HCN.out;have hfree:=Free_any y Ay cy wr hcy (KidsAt.mono hbr3.size _ _ _ (KidsAt.below hbr3 (Nat.le_refl _) _ _ _ HKY.out.1));rw[HKY.out.2.1,HWS.out]at hfree;have HFREE:=kH hfree;have HMAP:=kH hmap;have hxx:=HXX.out.below hbr HXX.out.lt;obtain⟨⟨x0',x1',x2',x3',x4'⟩,-⟩:=hxx.five;have lx:=hxx.lt
     obtain⟨wo,hwo⟩:∃ wo:World,wo=wr:=⟨_,rfl⟩
     subst hwo
     obtain⟨go,hgo⟩:∃ go:Nat,go=gk:=⟨_,rfl⟩
     subst hgo;clear hmap hbr3 hcy hfree hxx hamr hsr hbr
     go_wp2_with fail
     refine HFREE.out.mono ?_;rintro e9 w9 ⟨v9,rfl,hO9,hb9⟩;obtain⟨FA,fc,rfl,hl1,hl2⟩:=hO9.shape;have hl3:=Nat.le_trans hl1 hl2
     obtain⟨wn,hwn⟩:∃ q,ws.length=q:=⟨_,rfl⟩
     rw[hwn]at hO9 hl3 ⊢;have HWNB:=kH hl3;have HWN:=kH hwn;have HAM9:=kH (HAMR.out.below hb9 HAMR.out.lt);have HB9:Hid (Below w.heap.size w w9):=kH (HBX.out.trans ((HBR.out.trans (hb9.mono HBR.out.size)).mono HBX.out.size));have hrow9:RowAt 1 strCells w9 w9.heap.size FA ws:=hO9.rowAt (cells:=strCells) (l:=ws) rfl rfl (fun _ _=>rfl) hwn;have HROW9:=kH hrow9;clear hrow9 hO9 hb9 hl1 hl2 hl3 hwn x0' x1' x2' x3' x4' lx
     go_wp2_with fail
     go_loopg [93] wn (fun gk s93 wr => ∃ k:Nat,s93 = .int .i64 (k:Int)∧k+gk=wn∧Below w9.heap.size w9 wr)
     case atStart=>exact⟨0,rfl,by omega,Below.refl _ _⟩
     case round =>
      obtain⟨k2,rfl,hkn2,hb2⟩:=hrel
      have hkb2:k2≤wn:=by omega
      have HK2:=kH hkn2;have HBW2:=kH hb2;clear hkn2
      by_cases hlt2:k2 < wn
      ·obtain⟨x,hx⟩:∃ x,ws[k2]? = some x:=⟨_,List.getElem?_eq_getElem (by rw[HWN.out];exact hlt2)⟩
       obtain⟨fb,fo,hFA,hfb,hfc⟩:=(HROW9.out.below hb2 (Nat.le_refl _)) k2 x hx;subst hFA
       have x0:wr.cell? ⟨fb,fo+k2,none⟩=some (.string x):=by simpa using hfc 0 _ rfl
       have hlk:(Instr.lookup 55 (.map (some mp)) (.string x) false).run Tryz.prog wr = .ok (.bool true) wr:=by
        have:=run_lookup_am (P:=Tryz.prog) (KK:=strK) (t:=55) (kt:=9) (et:=4) Tryz.underlying55 Tryz.underlying9 zero_bool (HAM9.out.below hb2 HAM9.out.lt) x;rw[HMAP.out x (List.mem_of_getElem? hx)]at this;exact this
       have hki2:(k2:Int) < (wn:Int):=by omega
       have hw2:IntKind.i64.wrap ((k2:Int)+1)=(k2:Int)+1:=IntWalk.i64_in _ (by have:=HWNB.out;simp only[maxLen]at this;omega);clear hx hfc hb2
       go_wp2_with fail
       go_roundg (gk - 1)
       case measure=>have:=HK2.out;omega
       case rel=>exact⟨k2+1,by simp,by have:=HK2.out;omega,HBW2.out⟩
      ·have hke2:k2=wn:=by omega
       clear hb2
       go_wp2_with fail
       refine(HAWK.out _).mono ?_;rintro e8 w8 ⟨rfl,hb8⟩;have HB8:Hid (Below w.heap.size w w8):=kH (HB9.out.trans ((HBW2.out.trans (hb8.mono HBW2.out.size)).mono HB9.out.size));clear hb8
       go_wp2_with fail
       go_ret
       exact⟨rfl,HB8.out⟩
 ·cases ok with
  | false =>
   go_wp2_with (first | rw[hwX] | rw[hxb])
   refine(HAWK.out _).mono ?_;rintro e9 w9 ⟨rfl,hb9⟩;have HB9:Hid (Below w.heap.size w w9):=kH (HBX.out.trans (hb9.mono HBX.out.size));clear hb9
   go_wp2_with fail
   go_ret
   exact⟨rfl,HB9.out⟩
  | true =>
   by_cases h1:er=0
   ·subst h1
    by_cases h2:nw=0
    ·subst h2
     have h3:is=false:=by
      cases is with
      | false=>rfl
      | true=>exact absurd ⟨rfl,rfl,rfl,rfl⟩ hgo
     subst h3
     go_wp2_with (first | rw[hwX] | rw[hxb])
     refine(HAWK.out _).mono ?_;rintro e9 w9 ⟨rfl,hb9⟩;have HB9:Hid (Below w.heap.size w w9):=kH (HBX.out.trans (hb9.mono HBX.out.size));clear hb9
     go_wp2_with fail
     go_ret
     exact⟨rfl,HB9.out⟩
    ·have hpos:(0:Int) < (nw:Int):=by omega
     go_wp2_with (first | rw[hwX] | rw[hxb])
     refine(HAWK.out _).mono ?_;rintro e9 w9 ⟨rfl,hb9⟩;have HB9:Hid (Below w.heap.size w w9):=kH (HBX.out.trans (hb9.mono HBX.out.size));clear hb9
     go_wp2_with fail
     go_ret
     exact⟨rfl,HB9.out⟩
   ·have hne:(er != 0)=true:=by simpa using h1
    go_wp2_with (first | rw[hwX] | rw[hxb])
    refine(HAWK.out _).mono ?_;rintro e9 w9 ⟨rfl,hb9⟩;have HB9:Hid (Below w.heap.size w w9):=kH (HBX.out.trans (hb9.mono HBX.out.size));clear hb9
    go_wp2_with fail
    go_ret
    exact⟨rfl,HB9.out⟩
end Go.Proofs.YtoepemlnlpamlaaGreat
namespace Go.Proofs.YtoepemlnlpamlaaGreat
set_option maxRecDepth 100000
set_option maxHeartbeats 4000000
open Go.ChangeShapes Go.WideShapes Go.ChangeAt Go.RowKit
theorem Tryz.own:ownKnob Tryz.prog.godebug=none:=by kernel_rfl
theorem Tryz.laidOut:laidOutB Tryz.prog=true:=by kernel_rfl
section
variable {H:Type} {enc:TypeId × Value→H} {P:Program}
theorem trodAll_stays (hl:laidOutB P=true) {W W':World} (hb:Below W.heap.size W W') (sp:Nat→Bool):∀ {ts:List TypeId} {vs:List Value} {ds:List (DataW H)} {ps:List MemPlace},
 ts.all (fun t=>P.readableRec t && decide (t < P.types.size))=true→DataW.TrodAll enc P W 0 (fun _=>true) true ts vs ds ps→(∀ x ∈ ps,x.block < W.heap.size)→(∀ x ∈ ps,sp x.block=true) →
 DataW.TrodAll enc P W' 0 sp true ts vs ds ps:=by
 intro ts
 induction ts with
 | nil =>
  intro vs ds ps _ h _ _
  cases vs <;> cases ds <;> simp[DataW.TrodAll]at h ⊢
  exact h
 | cons t ts ih =>
  intro vs ds ps hr h hlt hsp;obtain⟨v,vs',d,ds',p,q,rfl,rfl,rfl,hd,hrest⟩:=trodAll_cons h;rw[List.all_cons,Bool.and_eq_true,Bool.and_eq_true]at hr;refine⟨p,q,?_,ih hr.2 hrest (fun x hx=>hlt x (by simp[hx])) (fun x hx=>hsp x (by simp[hx])),rfl⟩;exact WideElems.Trod_stays hl hr.1.1 (of_decide_eq_true hr.1.2) hd (fun x hx=>hb.same (hlt x (by simp[hx]))) (fun x hx=>hsp x (by simp[hx]))
theorem law_post (hl:laidOutB P=true) {f:Func} {s:ChangeSpec} {apart fresh handsOn again:Bool} {W W':World} {args:Array Value} {ds gs:List (DataW H)} {before:List MemPlace} {tb:TypeId}
 (hW:DataW.Whole enc P f.params.toList s.vars apart W args.toList ds gs before) (hv:s.vars = [])
 (hread:f.params.toList.all (fun t=>P.readableRec t && decide (t < P.types.size))=true)
 (hfn:s.fn H (ds ++ gs) = { results:=[.lit (.bool true)],args:=ds }) (hr:f.resultTypes = #[tb]) (htb:P.underlying tb=some .bool) (hb:Below W.heap.size W W') :
 s.post enc P f apart fresh handsOn again W args (.bool true) W':=by
 have hlt:∀ p ∈ before,p.block < W.heap.size:=fun p hp=>hW.lt p hp
 have hW0:=hW;obtain⟨p,q,hA,hV,hpq,hz,hn⟩:=hW;rw[hv]at hV;obtain⟨hgs,hq⟩:=trodVars_none hV;subst hq;rw[List.append_nil]at hpq;subst hpq
 have hres:∀ (b:Nat) (sp:Nat→Bool) (hd:Bool),DataW.TrodAll enc P W' b sp hd f.resultTypes.toList ((Value.bool true).resultList f.resultTypes.size) (s.fn H (ds ++ gs)).results []:=fun b sp hd=>by
  rw[hfn,hr];exact trodAll_mk1 (shut_bool htb true)
 have hargs:∀ sp:Nat→Bool,(∀ x ∈ before,sp x.block=true)→DataW.TrodAll enc P W' 0 sp true f.params.toList args.toList (s.fn H (ds ++ gs)).args before:=fun sp hsp=>by
  rw[hfn];exact trodAll_stays hl hb sp hread hA hlt hsp
 have hvars:∀ sp:Nat→Bool,DataW.TrodVars enc P W' sp s.vars (s.fn H (ds ++ gs)).vars []:=fun sp=>by
  rw[hfn,hv];rfl
 have hold:∀ x ∈ before,(fun b=>decide (b < W.heap.size)) x.block=true:=fun x hx=>by simpa using hlt x hx
 refine⟨ds,gs,before,[],before,[],hW0,hres _ _ _,hargs _ hold,hvars _,World.keptBut_mono (fun x hx=>⟨hx,Or.inr (by simpa using hx)⟩) (hb.frame (· ∈ before)),fun _=>?_⟩;refine⟨ok_one hr rfl (okWide_bool_mk htb true),_,_,([] ++ before) ++ [],⟨[] ++ before,[],trodAll_append (hargs _ (fun _ _=>rfl)) (hres _ _ _),hvars _,rfl,?_,?_⟩,?_⟩
 ·intro b off hp
  have hin:MemPlace.cell b off ∈ before:=by simpa using hp
  rw[hb.frozen (hlt _ hin)];exact hz b off hin
 ·intro ha
  simpa using hn ha
 ·intro x hx _
  simpa using hx
end
end Go.Proofs.YtoepemlnlpamlaaGreat
namespace Go.Proofs.YtoepemlnlpamlaaGreat
set_option maxRecDepth 100000
set_option maxHeartbeats 4000000
open Go.ChangeShapes Go.WideShapes Go.ChangeAt Go.RowKit Go.Joins Go.ChangeMaps
theorem free_lifted (os:Os) (started:os.Started) (H:Type) (enc:TypeId × Value→H) :
 ReturnsInHanded {} Tryz.checked os 7 .any (Rows.namesFreeAtSpec.pre6 enc Tryz.prog Tryz.f7 Rows.namesFreeAtRow.domain false) (Rows.namesFreeAtSpec.post enc Tryz.prog Tryz.f7 false true false false):=by
 refine returnsInHanded_of_change (C:=Tryz.checked) Tryz.own started (by kernel_rfl) Tryz.func7
  (ChangeSpec.witness6 (enc:=enc) (C:=Tryz.checked) false ⟨#[],#[.string ⟨#[]⟩,.int .i64 0],[]⟩ 8 (by kernel_rfl) (by kernel_rfl) (by kernel_rfl) (by kernel_rfl)) ?_
 intro W base args ds gs before hval0 hW hcnd _;have hval:∀ (j:Nat) t v,Tryz.f7.params[j]? = some t→args[j]? = some v→Value.okWide Tryz.prog W .any base t v:=hval0;have hW':=hW;obtain⟨p,q,hA0,hV,rfl,hfz,hnd⟩:=hW;have hA:DataW.TrodAll enc Tryz.prog W 0 (fun _=>true) true Tryz.f7.params.toList args.toList ds p:=hA0;rw[Tryz.params7]at hA hval;obtain⟨v0,v1,d0,d1,p0,p1,rfl,rfl,rfl,h0,h1⟩:=trodAll_two hA;obtain⟨rfl,rfl⟩:=trodVars_none hV;obtain⟨s,rfl,-,rfl,-⟩:=open_string Tryz.underlying9 (hval 0 9 v0 rfl rfl) h0;obtain⟨num,rfl,-,rfl,-⟩:=open_int Tryz.underlying3 (hval 1 3 v1 rfl rfl) h1
 refine(lawFree_any s num W).mono fun e W' ⟨he,hb⟩=>?_
 subst he;exact⟨_,rfl,law_post Tryz.laidOut hW' rfl (by kernel_rfl) rfl (by kernel_rfl) Tryz.underlying4 hb⟩
theorem namesFreeAt_holds:Rows.NamesFreeAtSaid :=
 OpenClaim.holds_of_wide 7 Tryz.f7 rfl rfl rfl rfl rfl rfl rfl ⟨rfl,rfl,rfl,rfl,rfl⟩ rfl rfl rfl rfl rfl (by kernel_rfl) Tryz.func7 (by kernel_rfl)
  (of_decide_eq_true (by kernel_rfl)) (by unfold Func.isWrapper;first | (rw[if_pos (by decide +kernel)];kernel_rfl) | (rw[if_neg (by decide +kernel)];exact⟨rfl,rfl⟩))
  (fun os started H enc _=>free_lifted os started H enc)
end Go.Proofs.YtoepemlnlpamlaaGreat
