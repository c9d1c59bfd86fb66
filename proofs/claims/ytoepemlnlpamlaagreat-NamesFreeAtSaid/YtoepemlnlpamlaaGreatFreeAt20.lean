/- The law NamesFreeAt holds: for every text and every number the law returns true, and its arguments read as before. No condition. Part 20: Nam7 Ord1 Ord2. -/
import Derived.Test.YtoepemlnlpamlaaGreatFreeAt01
import Derived.Test.YtoepemlnlpamlaaGreatFreeAt18
import Derived.Test.YtoepemlnlpamlaaGreatFreeAt19
namespace Go.Proofs.YtoepemlnlpamlaaGreat
set_option maxRecDepth 100000
set_option maxHeartbeats 4000000
open Go.RowKit
theorem first_any (l:Lay) (m:Nat) (x:ByteArray) (n:Nat) (w:World) (hm:AMap strK w m (layV l)) :
 Calls Tryz.prog 144 #[.map (some m),.string x,.int .i64 (n:Int)] w fun e w'=>e = .returned (.tuple #[])∧AMap strK w' m (layV (firstM l x n))∧Since (fun g=>g=m) w w':=by
 have hlk:=lookupOk_lay w m l hm x
 cases hl:lookL l x with
 | some k =>
  have hf:firstM l x n=l:=by unfold firstM layM;rw[hl];rfl
  rw[hf];rw[hl]at hlk;simp only[Option.getD_some,Option.isSome_some]at hlk;have HM:=kH hm;clear hm hf hl
  go_enter Tryz.func144,Tryz.ntmps144
  go_wp2_with fail
  go_end0
  exact⟨rfl,HM.out,Since.refl _ _⟩
 | none =>
  have hf:firstM l x n=setL l x (n:Int):=by unfold firstM layM;rw[hl];rfl
  rw[hf];rw[hl]at hlk;simp only[Option.getD_none,Option.isSome_none]at hlk;have HM:=kH hm;clear hm hf hl
  go_enter Tryz.func144,Tryz.ntmps144
  obtain⟨w1,hrun,hm1,hg1,hz1⟩:=run_mapUpdate_am (P:=Tryz.prog) (KK:=strK) (t:=70) (kt:=9) (et:=3) Tryz.underlying70 Tryz.underlying9 HM.out x (.int .i64 (n:Int));change (Instr.mapUpdate 70 (.map (some m)) (Value.string x) (.int .i64 (n:Int))).run Tryz.prog w=_ at hrun;have hs1:Since (fun g=>g=m) w w1:=(Since.refl (fun g=>g=m) w).grown hg1 (fun k hk=>by cases hk;exact .inl rfl);rw[setM_lay]at hm1;have HM1:=kH hm1;have HS1:=kH hs1;clear hm1 hg1 hz1 hs1
  go_wp2_with fail
  go_end0
  exact⟨rfl,HM1.out,HS1.out⟩
theorem collectF_snoc:∀ (a:List Tree) (f:Tree) (n:Nat) (l:Lay),collectF (a ++ [f]) n l=if f.kind=4 then firstM (collectF a n l) f.text ((n+countsM a:Nat):Int) else collectF a n l
 | [],f,n,l=>rfl
 | g :: a,f,n,l=>by
  show collectF (a ++ [f]) (n+countM g) _=_;rw[collectF_snoc a,countsM];show (if _ then firstM (collectF a (n+countM g) _) _ _ else collectF a (n+countM g) _)=_;rw[show n+countM g+countsM a=n+(countM g+countsM a) by omega];rfl
theorem collectK_snoc:∀ (a:List Tree) (k:Tree) (n:Nat) (g:Glob),collectK (a ++ [k]) n g=⟨firstM (collectK a n g).globals k.text ((n+countsM a:Nat):Int),collectF k.kids (n+countsM a+1) (collectK a n g).fields,setL (collectK a n g).kinds ((n+countsM a:Nat):Int) k.kind⟩
 | [],k,n,g=>rfl
 | j :: a,k,n,g=>by
  show collectK (a ++ [k]) (n+countM j) _=_;rw[collectK_snoc a,countsM];rw[show n+countM j+countsM a=n+(countM j+countsM a) by omega];rfl
theorem take_snoc {α:Type} {l:List α} {i:Nat} {x:α} (h:l[i]? = some x):l.take (i+1)=l.take i ++ [x]:=by
 rw[List.take_add_one,h];rfl
theorem setM_int (l:List (Int × Int)) (x n:Int):setM (intV l) x (.int .i64 n)=intV (setL l x n):=setM_map (Value.int .i64) x n l
structure CG (g f k:Nat) (G:Glob) (w:World):Prop where
 gl:AMap strK w g (layV G.globals)
 fl:AMap strK w f (layV G.fields)
 kn:AMap intK w k (intV G.kinds)
theorem CG.below {g f k:Nat} {G:Glob} {w w':World} (h:CG g f k G w) (hb:Below w.heap.size w w'):CG g f k G w':=⟨h.gl.beh hb,h.fl.beh hb,h.kn.beh hb⟩
theorem KidsAt.since {w w':World} {B:Nat} {S:Nat→Prop} (hs:Since S w w') (hB:B≤w.heap.size) (hS:∀ g,S g→B≤g) {ts:List Tree} {A:Option Addr} {i:Nat} (h:KidsAt w B A i ts):KidsAt w' B A i ts :=
 KidsAt.below (hs.toBelow hB hS) (Nat.le_refl _) _ _ _ h
theorem collect_any (rp g f kk B:Nat) (a3 a4 a5 a6 a7 a8:Value) (w:World) (hb:Blk w rp 75 #[.map (some g),.map (some f),.map (some kk),a3,a4,a5,a6,a7,a8]) (hG:CG g f kk ⟨[],[],[]⟩ w) (hne:g≠f∧g≠kk∧f≠kk) (hB:B≤g∧B≤f∧B≤kk∧B≤w.heap.size)
 (t:Tree) (A:Option Addr) (c:Nat) (hm:countM t≤1000000000) (hk:KidsAt w B A 0 t.kids) :
 Calls Tryz.prog 78 #[.pointer (some ⟨rp,0,none⟩),nodeV t A c] w fun e w'=>e = .returned (.tuple #[])∧CG g f kk (collectM t) w'∧Since (fun x=>x=g∨x=f∨x=kk) w w':=by
 have hcm:collectM t=collectK t.kids 1 ⟨[],[],[]⟩:=rfl;have hce:=countM_eq t
 obtain⟨kids,hkids⟩:∃ q,t.kids=q:=⟨_,rfl⟩
 obtain⟨k0,x0,a0,z0,n,-,-,-,-,hn,hv⟩:=node_named t A c;rw[hv,hcm];rw[hkids]at hk hn hce ⊢;have hcl:=counts_len kids
 have hS:∀ x,(x=g∨x=f∨x=kk)→B≤x:=by intro x hx;omega
 have HSB:=kH hS;have HBZ:=kH hB;have HK:=kH hk;have HN:=kH hn;have HCE:=kH hce;have HM:Hid (1+countsM kids≤1000000000):=kH (by omega);have HG:=kH hG;have HB:=kH hb;have HNE:=kH hne
 have hnb:n≤1000000000:=by omega
 have hgl:=hb.lt;clear hk hce hm hkids hn hcl hv hcm hS hB hG hb hne
 go_enter Tryz.func78,Tryz.ntmps78
 go_wp2_with fail
 generalize hW1:w.alloc (.cells #[.int .i64 k0,.string x0,.int .i64 a0,.int .i64 z0,.slice A n c] 24)=W1
 have hb1:Below w.heap.size w W1:=by rw[← hW1];exact below_alloc _ _
 have HS1:Hid (Since (fun x=>x=g∨x=f∨x=kk) w W1):=kH ((Since.refl _ w).below hb1);have HG1:=kH (HG.out.below hb1);clear hW1 hb1
 go_loopg [4,14] n (fun gk s4 s14 wr => ∃ i:Nat,i+gk=n∧s4 = .int .i64 ((1+countsM (kids.take i):Nat):Int)∧s14 = .int .i64 (i:Int)∧Hid (CG g f kk (collectK (kids.take i) 1 ⟨[],[],[]⟩) wr)∧Hid (Since (fun x=>x=g∨x=f∨x=kk) w wr))
 case atStart=>exact⟨0,by omega,by simp[countsM],rfl,HG1,HS1⟩
 case round =>
  obtain⟨i,hi,rfl,rfl,HGr,HSr⟩:=hrel;have HI:=kH hi
  have hin:i≤n:=by omega
  clear hi
  by_cases hlt:i < n
  ·have hlt':(i:Int) < (n:Int):=by omega
   obtain⟨u,hu⟩:∃ u,kids[i]? = some u:=⟨_,List.getElem?_eq_getElem (by rw[HN.out];exact hlt)⟩
   have hbW:Below B w wr:=HSr.out.toBelow HBZ.out.2.2.2 HSB.out;obtain⟨vals,⟨b,off,hA,hbl,hcs⟩,hT⟩:=HK.out.get i u hu;obtain⟨A',c',hvals,hK'⟩:=hT.five;subst hA;subst hvals;have hzr:=HSr.out.size;have hbw:=HBZ.out.2.2.2
   have hbb:b < wr.heap.size:=by omega
   obtain⟨uk,huk⟩:∃ q,u.kind=q:=⟨_,rfl⟩
   obtain⟨ux,hux⟩:∃ q,u.text=q:=⟨_,rfl⟩
   obtain⟨ua,hua⟩:∃ q,u.at_=q:=⟨_,rfl⟩
   obtain⟨uz,huz⟩:∃ q,u.end_=q:=⟨_,rfl⟩
   obtain⟨ukids,huks⟩:∃ q,u.kids=q:=⟨_,rfl⟩
   obtain⟨un,hun⟩:∃ q,ukids.length=q:=⟨_,rfl⟩
   have t0:wr.cell? ⟨b,off+i * 5,none⟩=some (.int .i64 uk):=(hbW.cell (p:=⟨b,_,none⟩) hbl).trans (by rw[← huk];simpa using hcs 0 _ rfl);have t1:wr.cell? ⟨b,off+i * 5+1,none⟩=some (.string ux):=(hbW.cell (p:=⟨b,_,none⟩) hbl).trans (by rw[← hux];simpa using hcs 1 _ rfl);have t2:wr.cell? ⟨b,off+i * 5+2,none⟩=some (.int .i64 ua):=(hbW.cell (p:=⟨b,_,none⟩) hbl).trans (by rw[← hua];simpa using hcs 2 _ rfl);have t3:wr.cell? ⟨b,off+i * 5+3,none⟩=some (.int .i64 uz):=(hbW.cell (p:=⟨b,_,none⟩) hbl).trans (by rw[← huz];simpa using hcs 3 _ rfl);have t4:wr.cell? ⟨b,off+i * 5+4,none⟩=some (.slice A' un c'):=(hbW.cell (p:=⟨b,_,none⟩) hbl).trans (by rw[← hun,← huks];simpa using hcs 4 _ rfl)
   have HBr:Hid (Blk wr rp 75 #[.map (some g),.map (some f),.map (some kk),a3,a4,a5,a6,a7,a8]):=kH (HB.out.since HSr.out (fun e=>by
    have h1:w.heap[rp]? = some (Obj.cells _ _ (0,0)):=HB.out
    rcases e with e | e | e
    ·obtain⟨es,ck,ho⟩:=HG.out.gl.isMap
     rw[← e,h1]at ho;cases ho
    ·obtain⟨es,ck,ho⟩:=HG.out.fl.isMap
     rw[← e,h1]at ho;cases ho
    ·obtain⟨es,ck,ho⟩:=HG.out.kn.isMap
     rw[← e,h1]at ho;cases ho))
   rw[huks]at hK';have HK':=kH hK';have HU0:=kH hu
   have hcu0:∀ Z,Since (fun x=>x=g∨x=f∨x=kk) w Z→Calls Tryz.prog 77 #[nodeV u A' c'] Z fun e w'=>e = .returned (.int .i64 (countM u:Int))∧Below Z.heap.size Z w':=fun Z hZ =>
    count_any u A' c' Z (by have h1:=countsM_take kids i u HU0.out;have h2:=countsM_le kids (i+1);have h3:=HM.out;omega) (KidsAt.mono (Nat.le_trans hbw hZ.size) _ _ _ (KidsAt.since hZ hbw HSB.out (by rw[huks];exact HK'.out)))
   unfold nodeV at hcu0;rw[huk,hux,hua,huz,huks,hun]at hcu0;have HCU:=kH hcu0;clear hcu0;have hgr:=HBr.out.lt;have d0:=HBr.out.cell 0;have d1:=HBr.out.cell 1;have d2:=HBr.out.cell 2;have HU:=kH hu;have HUN:=kH hun;clear hcs hT hK' hu hbW hun
   go_wp2_with fail
   generalize hX:wr.alloc (.cells #[.int .i64 uk,.string ux,.int .i64 ua,.int .i64 uz,.slice A' un c'] 24)=X
   have hbX:Below wr.heap.size wr X:=by rw[← hX];exact below_alloc _ _
   have hTX:Blk X wr.heap.size 24 #[.int .i64 uk,.string ux,.int .i64 ua,.int .i64 uz,.slice A' un c']:=by rw[← hX];exact Blk.new wr _ _
   have HSX:Hid (Since (fun x=>x=g∨x=f∨x=kk) w X):=kH (HSr.out.below hbX);have HGX:=kH (HGr.out.below hbX);have hBX:=HBr.out.below hbX hgr
   obtain⟨num,hnum⟩:∃ q,1+countsM (kids.take i)=q:=⟨_,rfl⟩
   rw[hnum]at ⊢;have HNUM:=kH hnum
   obtain⟨Gi,hGi⟩:∃ q,collectK (kids.take i) 1 ⟨[],[],[]⟩=q:=⟨_,rfl⟩
   rw[hGi]at HGX;have HGI:=kH hGi
   have notmap:Hid (∀ {r:Nat} {t:TypeId} {cs:Array Value} {x:Nat} {w':World},Blk w' r t cs→(∃ es ck,w'.heap[x]? = some (.map es ck))→r≠x):=kH (fun hb ⟨es,ck,ho⟩ e=>by
    subst e;have h1:_=some (Obj.cells _ _ (0,0)):=hb
    rw[ho]at h1;cases h1)
   have HTX:=kH hTX;have HBX:=kH hBX
   have hS6:∀ W':World,Since (fun x=>x=g) X W'→W'.cell? ⟨rp,0,none⟩=some (.map (some g))∧W'.cell? ⟨wr.heap.size,1,none⟩=some (.string ux):=fun W' hs=>by
    have h1:=HBX.out.since hs (fun e=>notmap.out HBX.out HGX.out.gl.isMap e);have h2:=HTX.out.since hs (fun e=>notmap.out HTX.out HGX.out.gl.isMap e);exact⟨h1.cell 0,h2.cell 1⟩
   have HS6:=kH hS6;have hlX:=hTX.lt;have hrX:=hBX.lt;have e0:=hBX.cell 0;have e1:=hTX.cell 1;have hs0:Since (fun x=>x=g) X X.drew:=(Since.refl _ X).drew;clear hX hbX hTX hBX hnum hGi HBr d0 d1 d2 t0 t1 t2 t3 t4 hS6 HSr HGr
   go_region_held3 (fun w'=>w'.cell? ⟨rp,0,none⟩=some (.map (some g))∧w'.cell? ⟨wr.heap.size,1,none⟩=some (.string ux)) (exact HS6.out _ (by assumption)) ((go_at_call 144;refine(first_any Gi.globals g ux num X.drew (AMap.drew HGX.out.gl)).mono ?_;rintro e w2 ⟨rfl,hm2,hs2⟩;have hs3:=hs0.trans hs2))
   have hG2:CG g f kk ⟨firstM Gi.globals ux num,Gi.fields,Gi.kinds⟩ w2:=⟨hm2,HGX.out.fl.since hs3 (fun e=>HNE.out.1 e.symm),HGX.out.kn.since hs3 (fun e=>HNE.out.2.1 e.symm)⟩
   have hB2:=HBX.out.since hs3 (fun e=>notmap.out HBX.out HGX.out.gl.isMap e);have hT2:=HTX.out.since hs3 (fun e=>notmap.out HTX.out HGX.out.gl.isMap e);have HS2:Hid (Since (fun x=>x=g∨x=f∨x=kk) w w2):=kH (HSX.out.step hs3 (fun x e=>.inl (.inl e)));have HZ2:Hid (wr.heap.size < w2.heap.size∧w.heap.size≤wr.heap.size):=kH ⟨hT2.lt,hzr⟩;have HG2:=kH hG2;have HB2:=kH hB2;have HT2:=kH hT2;have e2:=hB2.cell 2;have t0:=hT2.cell 0;have hl2:=hT2.lt;have hr2:=hB2.lt;clear hs3 hs2 hs0 hm2 hG2 hB2 hT2 HGX HSX HTX HBX HS6 hlX hrX e0 e1
   go_wp2_with fail
   refine wp_region_HS (fun w'=>w'.cell? ⟨rp,2,none⟩=some (.map (some kk))∧w'.cell? ⟨wr.heap.size,0,none⟩=some (.int .i64 uk)) [7] [true,true,true,true,true,true,true,false] (by kernel_rfl) (by kernel_rfl) rfl (by kernel_rfl) ?_
   have hS0:w2.drew.cell? ⟨rp,2,none⟩=some (.map (some kk))∧w2.drew.cell? ⟨wr.heap.size,0,none⟩=some (.int .i64 uk):=⟨e2,t0⟩
   iterate 7(refine wpHS_soft rfl hS0 (by intro w' hSw;obtain⟨hs1,hs2⟩:=hSw;go_simp;rfl) ?_;simp only[Act.put,sA,sZ,sC])
   obtain⟨w4,hrun,hm4,hg4,hz4⟩:=run_mapUpdate_am (P:=Tryz.prog) (KK:=intK) (t:=71) (kt:=3) (et:=3) Tryz.underlying71 Tryz.underlying3 (AMap.drew HG2.out.kn) (num:Int) (.int .i64 uk);change (Instr.mapUpdate 71 (.map (some kk)) (Value.int .i64 (num:Int)) (.int .i64 uk)).run Tryz.prog w2.drew=_ at hrun;have hs4:Since (fun g=>g=kk) w2 w4:=((Since.refl (fun g=>g=kk) w2).drew).grown hg4 (fun k hk=>by cases hk;exact .inl rfl);rw[setM_int]at hm4
   have hG4:CG g f kk ⟨firstM Gi.globals ux num,Gi.fields,setL Gi.kinds (num:Int) uk⟩ w4:=⟨HG2.out.gl.since hs4 (fun e=>HNE.out.2.1 e),HG2.out.fl.since hs4 (fun e=>HNE.out.2.2 e),hm4⟩
   have hB4:=HB2.out.since hs4 (fun e=>notmap.out HB2.out HG2.out.kn.isMap e);have hT4:=HT2.out.since hs4 (fun e=>notmap.out HT2.out HG2.out.kn.isMap e);have HS4:Hid (Since (fun x=>x=g∨x=f∨x=kk) w w4):=kH (HS2.out.step hs4 (fun x e=>.inl (.inr (.inr e))));have HZ4:Hid (wr.heap.size < w4.heap.size∧w.heap.size≤wr.heap.size):=kH ⟨hT4.lt,HZ2.out.2⟩;have HG4:=kH hG4;have HB4:=kH hB4;have HT4:=kH hT4;have f4:=hT4.cell 4;have hl4:=hT4.lt;refine wpHS_skip (w':=w4) rfl (by simp[execOp,Act.eval,hrun,Result.andThen]) (by simp) ?_;refine wpHS_nil ?_;simp only[Act.put]
   obtain⟨fl0,hfl0⟩:∃ q,Gi.fields=q:=⟨_,rfl⟩
   rw[hfl0]at HG4;have HFL:=kH hfl0
   have hnb2:(num:Int)≤1000000000:=by have:=countsM_le kids i;have:=HNUM.out;have:=HM.out;omega
   have hwn:IntKind.i64.wrap ((num:Int)+1)=(num:Int)+1:=IntWalk.i64_in _ (by omega)
   have HUC:Hid (1+countsM ukids=countM u∧num+countM u≤1000000000):=kH (by
    have h1:=countM_eq u;have h2:=countsM_take kids i u HU.out;have h3:=countsM_le kids (i+1);have h4:=HNUM.out;have h5:=HM.out;rw[huks]at h1
    exact⟨by omega,by omega⟩)
   have hub:un≤1000000000:=by have:=HUC.out;have:=counts_len ukids;have:=HUN.out;omega
   clear hs4 hG4 hB4 hT4 hm4 hg4 hz4 hrun HG2 HB2 HT2 HS2 HZ2 e2 t0 hl2 hr2 hfl0
   go_wp2_with fail
   obtain⟨wo,hwo⟩:∃ wo:World,wo=wr:=⟨_,rfl⟩
   subst hwo
   obtain⟨go,hgo⟩:∃ go:Nat,go=gk:=⟨_,rfl⟩
   subst hgo
   go_loopg [8,39] un (fun gk s8 s39 wr => ∃ j:Nat,j+gk=un∧s8 = .int .i64 ((num+1+countsM (ukids.take j):Nat):Int)∧s39 = .int .i64 (j:Int)∧Hid (CG g f kk ⟨firstM Gi.globals ux num,collectF (ukids.take j) (num+1) fl0,setL Gi.kinds (num:Int) uk⟩ wr)∧Hid (Since (fun x=>x=g∨x=f∨x=kk) w4 wr))
   case atStart=>exact⟨0,by omega,by simp[countsM],rfl,HG4,kH (Since.refl _ _)⟩
   case round =>
    obtain⟨j,hj,rfl,rfl,HGj,HSj⟩:=hrel;have HJ:=kH hj
    have hjn:j≤un:=by omega
    have HSw:Hid (Since (fun x=>x=g∨x=f∨x=kk) w wr):=kH (HS4.out.trans HSj.out)
    have hTj:=HT4.out.since HSj.out (fun e=>by
     rcases e with e | e | e
     ·exact notmap.out HT4.out HG4.out.gl.isMap e
     ·exact notmap.out HT4.out HG4.out.fl.isMap e
     ·exact notmap.out HT4.out HG4.out.kn.isMap e)
    have hBj:=HB4.out.since HSj.out (fun e=>by
     rcases e with e | e | e
     ·exact notmap.out HB4.out HG4.out.gl.isMap e
     ·exact notmap.out HB4.out HG4.out.fl.isMap e
     ·exact notmap.out HB4.out HG4.out.kn.isMap e)
    clear hj
    by_cases hjt:j < un
    ·have hjt':(j:Int) < (un:Int):=by omega
     obtain⟨v,hv⟩:∃ v,ukids[j]? = some v:=⟨_,List.getElem?_eq_getElem (by rw[HUN.out];exact hjt)⟩
     have hbW:Below B w wr:=HSw.out.toBelow HBZ.out.2.2.2 HSB.out;obtain⟨vals,⟨bb,ob,hA2,hbl2,hcs⟩,hT2⟩:=HK'.out.get j v hv;obtain⟨A2,c2,hvals,hK2⟩:=hT2.five;subst hA2;subst hvals;have hzj:=HSw.out.size;have hbw:=HBZ.out.2.2.2
     have hbb2:bb < wr.heap.size:=by omega
     have hcntv:∀ Z,Since (fun x=>x=g∨x=f∨x=kk) w Z→Calls Tryz.prog 77 #[nodeV v A2 c2] Z fun e w'=>e = .returned (.int .i64 (countM v:Int))∧Below Z.heap.size Z w':=fun Z hZ =>
      count_any v A2 c2 Z (by have h1:=countsM_take ukids j v hv;have h2:=countsM_le ukids (j+1);have h3:=HUC.out;omega) (KidsAt.mono (Nat.le_trans hbw hZ.size) _ _ _ (KidsAt.since hZ hbw HSB.out hK2))
     unfold nodeV at hcntv
     obtain⟨vk,hvk⟩:∃ q,v.kind=q:=⟨_,rfl⟩
     obtain⟨vx,hvx⟩:∃ q,v.text=q:=⟨_,rfl⟩
     obtain⟨va,hva⟩:∃ q,v.at_=q:=⟨_,rfl⟩
     obtain⟨vz,hvz⟩:∃ q,v.end_=q:=⟨_,rfl⟩
     obtain⟨vn,hvn⟩:∃ q,v.kids.length=q:=⟨_,rfl⟩
     obtain⟨cv,hcv⟩:∃ q,countM v=q:=⟨_,rfl⟩
     rw[hvk,hvx,hva,hvz,hvn,hcv]at hcntv;have t0:wr.cell? ⟨bb,ob+j * 5,none⟩=some (.int .i64 vk):=(hbW.cell (p:=⟨bb,_,none⟩) hbl2).trans (by rw[← hvk];simpa using hcs 0 _ rfl);have t1:wr.cell? ⟨bb,ob+j * 5+1,none⟩=some (.string vx):=(hbW.cell (p:=⟨bb,_,none⟩) hbl2).trans (by rw[← hvx];simpa using hcs 1 _ rfl);have t2:wr.cell? ⟨bb,ob+j * 5+2,none⟩=some (.int .i64 va):=(hbW.cell (p:=⟨bb,_,none⟩) hbl2).trans (by rw[← hva];simpa using hcs 2 _ rfl);have t3:wr.cell? ⟨bb,ob+j * 5+3,none⟩=some (.int .i64 vz):=(hbW.cell (p:=⟨bb,_,none⟩) hbl2).trans (by rw[← hvz];simpa using hcs 3 _ rfl);have t4:wr.cell? ⟨bb,ob+j * 5+4,none⟩=some (.slice A2 vn c2):=(hbW.cell (p:=⟨bb,_,none⟩) hbl2).trans (by rw[← hvn];simpa using hcs 4 _ rfl)
     obtain⟨at_,hat⟩:∃ q,num+1+countsM (ukids.take j)=q:=⟨_,rfl⟩
     have hsum:at_+cv≤1000000000:=by have h1:=countsM_take ukids j v hv;have h2:=countsM_le ukids (j+1);have h3:=HUC.out;omega
     have hws:IntKind.i64.wrap ((at_:Int)+(cv:Int))=(at_:Int)+(cv:Int):=IntWalk.i64_in _ (by omega);have hwj:IntKind.i64.wrap ((j:Int)+1)=(j:Int)+1:=IntWalk.i64_in _ (by omega)
     have hnxt:((at_:Int)+(cv:Int))=((num+1+countsM (ukids.take (j+1)):Nat):Int):=by have h1:=countsM_take ukids j v hv;omega
     have hcF:collectF (ukids.take (j+1)) (num+1) fl0=if vk=4 then firstM (collectF (ukids.take j) (num+1) fl0) vx (at_:Int) else collectF (ukids.take j) (num+1) fl0:=by
      rw[take_snoc hv,collectF_snoc,hvk,hvx,hat]
     rw[hat];have HCF:=kH hcF;have HNX:=kH hnxt;have HCV:=kH hcntv;have hTj1:=hTj.lt;have hrj:=hBj.lt;have HTj:=kH hTj;have HBj:=kH hBj;clear hcs hT2 hK2 hv hbW hcF hnxt hcntv hvk hvx hva hvz hvn hcv hat hTj hBj
     by_cases hv4:vk=4
     ·subst hv4
      rw[if_pos rfl]at HCF
      go_wp2_with fail
      generalize hY:wr.alloc (.cells #[.int .i64 4,.string vx,.int .i64 va,.int .i64 vz,.slice A2 vn c2] 24)=Y
      have hbY:Below wr.heap.size wr Y:=by rw[← hY];exact below_alloc _ _
      have hTY:Blk Y wr.heap.size 24 #[.int .i64 4,.string vx,.int .i64 va,.int .i64 vz,.slice A2 vn c2]:=by rw[← hY];exact Blk.new wr _ _
      have HSY:Hid (Since (fun x=>x=g∨x=f∨x=kk) w4 Y):=kH (HSj.out.below hbY);have HGY:=kH (HGj.out.below hbY);have hBY:=HBj.out.below hbY hrj;have HTY:=kH hTY;have HBY:=kH hBY
      have hS6:∀ W':World,Since (fun x=>x=f) Y W'→W'.cell? ⟨rp,1,none⟩=some (.map (some f))∧W'.cell? ⟨wr.heap.size,1,none⟩=some (.string vx):=fun W' hs=>by
       have h1:=HBY.out.since hs (fun e=>notmap.out HBY.out HGY.out.fl.isMap e);have h2:=HTY.out.since hs (fun e=>notmap.out HTY.out HGY.out.fl.isMap e);exact⟨h1.cell 1,h2.cell 1⟩
      have HS6:=kH hS6;have hlY:=hTY.lt;have hrY:=hBY.lt;have e0:=hBY.cell 1;have e1:=hTY.cell 1;have hs0:Since (fun x=>x=f) Y Y.drew:=(Since.refl _ Y).drew;clear hY hbY hTY hBY hS6 t0 t1 t2 t3 t4
      go_region_held3 (fun w'=>w'.cell? ⟨rp,1,none⟩=some (.map (some f))∧w'.cell? ⟨wr.heap.size,1,none⟩=some (.string vx)) (exact HS6.out _ (by assumption)) ((go_at_call 144;refine(first_any (collectF (ukids.take j) (num+1) fl0) f vx at_ Y.drew (AMap.drew HGY.out.fl)).mono ?_;rintro e w6 ⟨rfl,hm6,hs6⟩;have hs7:=hs0.trans hs6))
      have hG6:CG g f kk ⟨firstM Gi.globals ux num,firstM (collectF (ukids.take j) (num+1) fl0) vx (at_:Int),setL Gi.kinds (num:Int) uk⟩ w6:=⟨HGY.out.gl.since hs7 (fun e=>HNE.out.1 e),hm6,HGY.out.kn.since hs7 (fun e=>HNE.out.2.2 e.symm)⟩
      have hT6:=HTY.out.since hs7 (fun e=>notmap.out HTY.out HGY.out.fl.isMap e);have HSX6:Hid (Since (fun x=>x=g∨x=f∨x=kk) w4 w6):=kH (HSY.out.step hs7 (fun x e=>.inl (.inr (.inl e))));have t0:=hT6.cell 0;have t1:=hT6.cell 1;have t2:=hT6.cell 2;have t3:=hT6.cell 3;have t4:=hT6.cell 4;have hl6:=hT6.lt;have HG6:=kH hG6;clear hs7 hs6 hs0 hm6 hG6 hT6 HGY HSY HTY HBY HS6 hlY hrY e0 e1
      go_wp2_with fail
      refine(HCV.out w6 (HS4.out.trans HSX6.out)).mono ?_;rintro e w7 ⟨rfl,hb7⟩;have HB7:=kH hb7;clear hb7 t0 t1 t2 t3 t4
      go_wp2_with fail
      go_roundg (gk - 1)
      case measure=>have:=HJ.out;omega
      case rel=>exact⟨j+1,by have:=HJ.out;omega,by rw[HNX.out],by simp,kH (by rw[HCF.out];exact HG6.out.below HB7.out),kH (HSX6.out.below HB7.out)⟩
     ·rw[if_neg hv4]at HCF
      go_wp2_with fail
      refine(HCV.out _ (HSw.out.below (below_alloc _ _))).mono ?_;rintro e w7 ⟨rfl,hb7⟩;have HB7:Hid (Below wr.heap.size wr w7):=kH ((below_alloc _ _).trans (hb7.mono (by simp)));clear hb7 t0 t1 t2 t3 t4
      go_wp2_with fail
      go_roundg (gk - 1)
      case measure=>have:=HJ.out;omega
      case rel=>exact⟨j+1,by have:=HJ.out;omega,by rw[HNX.out],by simp,kH (by rw[HCF.out];exact HGj.out.below HB7.out),kH (HSj.out.below HB7.out)⟩
    ·have hje:j=un:=by omega
     have t0:=hTj.cell 0;have t1:=hTj.cell 1;have t2:=hTj.cell 2;have t3:=hTj.cell 3;have t4:=hTj.cell 4;have hl7:=hTj.lt
     have HGE:Hid (CG g f kk (collectK (kids.take (i+1)) 1 ⟨[],[],[]⟩) wr):=kH (by
      have h1:=HGj.out;rw[hje,← HUN.out,List.take_length]at h1;rw[take_snoc HU.out,collectK_snoc,HGI.out,HNUM.out,hux,huks,huk,HFL.out]
      exact h1)
     have HNX:Hid (((num:Int)+(countM u:Int))=((1+countsM (kids.take (i+1)):Nat):Int)):=kH (by
      have h1:=countsM_take kids i u HU.out;have h2:=HNUM.out
      omega)
     have hcu:=HCU.out wr HSw.out
     obtain⟨cu,hcu2⟩:∃ q,countM u=q:=⟨_,rfl⟩
     rw[hcu2]at hcu HNX
     have hsum:num+cu≤1000000000:=by have:=HUC.out;omega
     have hws:IntKind.i64.wrap ((num:Int)+(cu:Int))=(num:Int)+(cu:Int):=IntWalk.i64_in _ (by omega);have hwi:IntKind.i64.wrap ((i:Int)+1)=(i:Int)+1:=IntWalk.i64_in _ (by omega);have HC:=kH hcu;clear hTj hBj hcu hcu2 hje
     go_wp2_with fail
     refine HC.out.mono ?_;rintro e w7 ⟨rfl,hb7⟩;have HB7:=kH hb7;clear hb7 t0 t1 t2 t3 t4
     go_wp2_with fail
     go_roundg (go - 1)
     case measure=>have:=HI.out;omega
     case rel=>exact⟨i+1,by have:=HI.out;omega,by rw[HNX.out],by simp,kH (HGE.out.below HB7.out),kH (HSw.out.below HB7.out)⟩
  ·have hie:i=n:=by omega
   have HGE:Hid (CG g f kk (collectK kids 1 ⟨[],[],[]⟩) wr):=kH (by
    have h1:=HGr.out;rw[hie,← HN.out,List.take_length]at h1
    exact h1)
   clear hie
   go_wp2_with fail
   go_end0
   exact⟨rfl,HGE.out,HSr.out⟩
end Go.Proofs.YtoepemlnlpamlaaGreat
namespace Go.Proofs.YtoepemlnlpamlaaGreat
set_option maxRecDepth 100000
set_option maxHeartbeats 4000000
def entM (r:RS) (i:Bool) (v:List Int):RS:={ r with next:=r.next+1,vis:=if i then setL r.vis (r.next:Int) v else r.vis }
def useN (G:Glob) (s:Scope) (r u:RS) (t:Tree):RS :=
 if t.kind=20 then useM u r.next t (findS s t.text)
 else if t.kind=22 then useM u r.next t (layM G.fields t.text)
 else if t.kind=27 then useM u r.next t (layM G.globals t.text)
 else if t.kind=19 then useM u r.next t ((layM G.globals t.text).filter fun j=>decide (kindAt G j=5))
 else if t.kind=9∧isScalar t.text=false then useM u r.next t ((layM G.globals t.text).filter fun j=>decide (kindAt G j=3))
 else u
theorem visitM_eq (G:Glob) (i:Bool) (k:Int) (x:ByteArray) (a e:Int) (kids:List Tree) (s:Scope) (r:RS):visitM G i (.node k x a e kids) s r =
 if k=3 then visitsM G i kids 0 kids.length s { declareM (entM r i (sortI (allS s))) 0 r.next (.node k x a e kids) (decide ((layM G.globals x).getD 0≠(r.next:Int))) with owner:=(r.next:Int) }
 else if k=4 then visitsM G i kids 0 kids.length s (declareM (entM r i (sortI (allS s))) 1 r.next (.node k x a e kids) (decide ((layM G.fields x).getD 0≠(r.next:Int))))
 else if k=5 then ((visitsM G true kids 2 1 ([] ::(visitsM G false kids 0 2 [[]] { declareM (entM r i (sortI (allS s))) 2 r.next (.node k x a e kids) (decide ((layM G.globals x).getD 0≠(r.next:Int))) with owner:=(r.next:Int) }).2) (visitsM G false kids 0 2 [[]] { declareM (entM r i (sortI (allS s))) 2 r.next (.node k x a e kids) (decide ((layM G.globals x).getD 0≠(r.next:Int))) with owner:=(r.next:Int) }).1).1,s)
 else if k=7∨k=8 then visitsM G i kids 0 kids.length (variableM G (entM r i (sortI (allS s))) 3 r.next (.node k x a e kids) s).2 (variableM G (entM r i (sortI (allS s))) 3 r.next (.node k x a e kids) s).1
 else if k=11 then ((visitsM G i kids 0 kids.length ([] :: s) (entM r i (sortI (allS s)))).1,(visitsM G i kids 0 kids.length ([] :: s) (entM r i (sortI (allS s)))).2.tail)
 else if k=12 then ((visitsM G i kids 0 2 s (variableM G (entM r i (sortI (allS s))) 4 r.next (.node k x a e kids) ([] :: s)).1).1,addTop (visitsM G i kids 0 2 s (variableM G (entM r i (sortI (allS s))) 4 r.next (.node k x a e kids) ([] :: s)).1).2 ((variableM G (entM r i (sortI (allS s))) 4 r.next (.node k x a e kids) ([] :: s)).2.headD []))
 else if k=16 then ((visitsM G i kids 2 1 ((variableM G (entM r i (sortI (allS s))) 5 r.next (.node k x a e kids) ([] :: s)).2.headD [] ::(visitsM G i kids 0 2 s (variableM G (entM r i (sortI (allS s))) 5 r.next (.node k x a e kids) ([] :: s)).1).2) (visitsM G i kids 0 2 s (variableM G (entM r i (sortI (allS s))) 5 r.next (.node k x a e kids) ([] :: s)).1).1).1,
  (visitsM G i kids 2 1 ((variableM G (entM r i (sortI (allS s))) 5 r.next (.node k x a e kids) ([] :: s)).2.headD [] ::(visitsM G i kids 0 2 s (variableM G (entM r i (sortI (allS s))) 5 r.next (.node k x a e kids) ([] :: s)).1).2) (visitsM G i kids 0 2 s (variableM G (entM r i (sortI (allS s))) 5 r.next (.node k x a e kids) ([] :: s)).1).1).2.tail)
 else visitsM G i kids 0 kids.length s (useN G s r (entM r i (sortI (allS s))) (.node k x a e kids)):=by
 rw[visitM];rfl
mutual
def InT:Tree→Bool
 | .node k _ _ _ kids=>decide (k≠2∧k≠3∧k≠4∧k≠5) && (decide (k≠12) || decide (kids.length=2)) && (decide (k≠16) || decide (kids.length=3)) && InTs kids
def InTs:List Tree→Bool
 | []=>true
 | t :: ts=>InT t && InTs ts
end
def namesS (s:Scope):List (List ByteArray):=s.map fun l=>l.map (·.1)
theorem lookL_some_iff {K V:Type} [DecidableEq K]:∀ (l:List (K × V)) (k:K),(lookL l k).isSome=(l.map (·.1)).any fun y=>decide (k=y)
 | [],_=>rfl
 | x :: l,k=>by
  rw[lookL,List.map_cons,List.any_cons]
  by_cases h:k=x.1
  ·rw[if_pos h,decide_eq_true h];rfl
  ·rw[if_neg h,decide_eq_false h,lookL_some_iff l k];rfl
theorem findS_names:∀ (s:Scope) (x:ByteArray),(findS s x).isSome=(namesS s).any fun l=>l.any fun y=>decide (x=y)
 | [],_=>rfl
 | l :: s,x=>by
  have h1:(lookL l x).isSome=_:=lookL_some_iff l x;have h2:=findS_names s x;unfold namesS at h2 ⊢;rw[List.map_cons,List.any_cons,← h1,← h2];rw[findS]
  cases h:layM l x with
  | none=>rw[show lookL l x=none from h];rfl
  | some k=>rw[show lookL l x=some k from h];rfl
theorem findS_agree {s1 s2:Scope} (h:namesS s1=namesS s2) (x:ByteArray):(findS s1 x).isSome=(findS s2 x).isSome:=by
 rw[findS_names,findS_names,h]
theorem setL_keys {K V W:Type} [DecidableEq K]:∀ (l:List (K × V)) (m:List (K × W)) (k:K) (v:V) (u:W),l.map (·.1)=m.map (·.1)→(setL l k v).map (·.1)=(setL m k u).map (·.1)
 | [],[],_,_,_,_=>rfl
 | [],_ :: _,_,_,_,h=>by cases h
 | _ :: _,[],_,_,_,h=>by cases h
 | x :: l,y :: m,k,v,u,h=>by
  simp only[List.map_cons,List.cons.injEq]at h;rw[setL,setL,h.1]
  by_cases hk:k=y.1
  ·rw[if_pos hk,if_pos hk,List.map_cons,List.map_cons,h.2]
  ·rw[if_neg hk,if_neg hk,List.map_cons,List.map_cons,h.1,setL_keys l m k v u h.2]
theorem foldl_keys:∀ (a b l m:Lay),l.map (·.1)=m.map (·.1)→a.map (·.1)=b.map (·.1)→(l.foldl (fun a y=>setL a y.1 y.2) a).map (·.1)=(m.foldl (fun a y=>setL a y.1 y.2) b).map (·.1)
 | _,_,[],[],_,h=>h
 | _,_,[],_ :: _,h,_=>by cases h
 | _,_,_ :: _,[],h,_=>by cases h
 | a,b,x :: l,y :: m,h,h2=>by
  simp only[List.map_cons,List.cons.injEq]at h;rw[List.foldl_cons,List.foldl_cons];refine foldl_keys _ _ l m h.2 ?_;rw[h.1];exact setL_keys a b _ _ _ h2
theorem addTop_agree {s1 s2:Scope} {l m:Lay} (h:namesS s1=namesS s2) (hl:l.map (·.1)=m.map (·.1)):namesS (addTop s1 l)=namesS (addTop s2 m):=by
 cases s1 with
 | nil=>cases s2 with
  | nil=>rfl
  | cons b s2=>cases h
 | cons a s1=>cases s2 with
  | nil=>cases h
  | cons b s2 =>
   unfold namesS at h ⊢;simp only[List.map_cons,List.cons.injEq]at h;simp only[addTop,List.map_cons,h.2];rw[foldl_keys a b l m hl h.1]
theorem tail_agree {s1 s2:Scope} (h:namesS s1=namesS s2):namesS s1.tail=namesS s2.tail:=by
 unfold namesS at h ⊢;rw[List.map_tail,List.map_tail,h]
theorem cons_agree {s1 s2:Scope} {l m:Lay} (h:namesS s1=namesS s2) (hl:l.map (·.1)=m.map (·.1)):namesS (l :: s1)=namesS (m :: s2):=by
 unfold namesS at h ⊢;rw[List.map_cons,List.map_cons,h,hl]
theorem head_agree {s1 s2:Scope} (h:namesS s1=namesS s2):(s1.headD []).map (·.1)=(s2.headD []).map (·.1):=by
 cases s1 with
 | nil=>cases s2 with
  | nil=>rfl
  | cons b s2=>cases h
 | cons a s1=>cases s2 with
  | nil=>cases h
  | cons b s2 =>
   unfold namesS at h;simp only[List.map_cons,List.cons.injEq]at h;exact h.1
structure Agree (G1 G2:Glob):Prop where
 gl:∀ x,(layM G1.globals x).isSome=(layM G2.globals x).isSome
 fl:∀ x,(layM G1.fields x).isSome=(layM G2.fields x).isSome
 kd:∀ x (K:Int),((layM G1.globals x).filter fun j=>decide (kindAt G1 j=K)).isSome=((layM G2.globals x).filter fun j=>decide (kindAt G2 j=K)).isSome
theorem Agree.refl (G:Glob):Agree G G:=⟨fun _=>rfl,fun _=>rfl,fun _ _=>rfl⟩
structure Gr (m:Nat) (r1 q1 r2 q2:RS) (p d:Nat):Prop where
 p1:q1.probs.length=r1.probs.length+p
 p2:q2.probs.length=r2.probs.length+p
 d1:q1.ds.length=r1.ds.length+d
 d2:q2.ds.length=r2.ds.length+d
 n1:q1.next=r1.next+m
 n2:q2.next=r2.next+m
def Gro (m:Nat) (r1 q1 r2 q2:RS):Prop:=∃ p d,Gr m r1 q1 r2 q2 p d
theorem Gro.trans {m m' n:Nat} {r1 q1 u1 r2 q2 u2:RS} (h:Gro m r1 q1 r2 q2) (k:Gro m' q1 u1 q2 u2) (hn:n=m+m'):Gro n r1 u1 r2 u2:=by
 obtain⟨p,d,h⟩:=h;obtain⟨p',d',k⟩:=k;refine⟨p+p',d+d',?_,?_,?_,?_,?_,?_⟩
 ·rw[k.p1,h.p1];omega
 ·rw[k.p2,h.p2];omega
 ·rw[k.d1,h.d1];omega
 ·rw[k.d2,h.d2];omega
 ·rw[k.n1,h.n1];omega
 ·rw[k.n2,h.n2];omega
theorem Gro.refl (r1 r2:RS):Gro 0 r1 r1 r2 r2:=⟨0,0,rfl,rfl,rfl,rfl,rfl,rfl⟩
theorem gro_say (r1 r2:RS) (c:Int) (n1 n2:Nat) (t:Tree):Gro 0 r1 (sayM r1 c n1 t) r2 (sayM r2 c n2 t):=⟨1,0,by simp[sayM],by simp[sayM],rfl,rfl,rfl,rfl⟩
theorem gro_decl (r1 r2:RS) (c:Int) (n1 n2:Nat) (t:Tree):Gro 0 r1 (declM r1 c n1 t) r2 (declM r2 c n2 t):=⟨0,1,rfl,rfl,by simp[declM],by simp[declM],rfl,rfl⟩
theorem gro_use (r1 r2:RS) (n1 n2:Nat) (t:Tree) (a b:Option Int) (h:a.isSome=b.isSome):Gro 0 r1 (useM r1 n1 t a) r2 (useM r2 n2 t b):=by
 cases a with
 | none=>cases b with
  | none=>exact gro_say _ _ _ _ _ _
  | some y=>cases h
 | some x=>cases b with
  | none=>cases h
  | some y=>exact⟨0,0,rfl,rfl,rfl,rfl,rfl,rfl⟩
theorem gro_variable {G1 G2:Glob} (hG:Agree G1 G2) (r1 r2:RS) (c:Int) (n1 n2:Nat) (t:Tree) {s1 s2:Scope} (hs:namesS s1=namesS s2) :
 Gro 0 r1 (variableM G1 r1 c n1 t s1).1 r2 (variableM G2 r2 c n2 t s2).1∧namesS (variableM G1 r1 c n1 t s1).2=namesS (variableM G2 r2 c n2 t s2).2:=by
 unfold variableM;rw[findS_agree hs,hG.gl];split
 ·exact⟨gro_say _ _ _ _ _ _,hs⟩
 ·exact⟨gro_decl _ _ _ _ _ _,addTop_agree hs rfl⟩
mutual
theorem gro_visit {G1 G2:Glob} (hG:Agree G1 G2):∀ (t:Tree) (i:Bool) (s1 s2:Scope) (r1 r2:RS),InT t=true→namesS s1=namesS s2 →
 Gro (countM t) r1 (visitM G1 i t s1 r1).1 r2 (visitM G2 i t s2 r2).1∧namesS (visitM G1 i t s1 r1).2=namesS (visitM G2 i t s2 r2).2
 | .node k x a e kids,i,s1,s2,r1,r2,hin,hs=>by
  rw[InT]at hin;simp only[Bool.and_eq_true,Bool.or_eq_true,decide_eq_true_eq]at hin;obtain⟨⟨⟨⟨k2,k3,k4,k5⟩,h12⟩,h16⟩,hks⟩:=hin
  have h0:∀ v1 v2,Gro 1 r1 { r1 with next:=r1.next+1,vis:=v1 } r2 { r2 with next:=r2.next+1,vis:=v2 }:=fun v1 v2=>⟨0,0,rfl,rfl,rfl,rfl,rfl,rfl⟩
  rw[visitM,visitM,countM];simp only[if_neg k3,if_neg k4,if_neg k5]
  by_cases h78:k=7∨k=8
  ·simp only[if_pos h78]
   obtain⟨a1,a2⟩:=gro_variable hG { r1 with next:=r1.next+1,vis:=if i then setL r1.vis (r1.next:Int) (sortI (allS s1)) else r1.vis } { r2 with next:=r2.next+1,vis:=if i then setL r2.vis (r2.next:Int) (sortI (allS s2)) else r2.vis } 3 r1.next r2.next (.node k x a e kids) hs;obtain⟨b1,b2⟩:=gro_visits hG kids i 0 kids.length _ _ _ _ hks a2;refine⟨((h0 _ _).trans (a1.trans b1 rfl) ?_),b2⟩;simp
  simp only[if_neg h78]
  by_cases h11:k=11
  ·simp only[if_pos h11]
   obtain⟨b1,b2⟩:=gro_visits hG kids i 0 kids.length ([] :: s1) ([] :: s2) { r1 with next:=r1.next+1,vis:=if i then setL r1.vis (r1.next:Int) (sortI (allS s1)) else r1.vis } { r2 with next:=r2.next+1,vis:=if i then setL r2.vis (r2.next:Int) (sortI (allS s2)) else r2.vis } hks (cons_agree hs rfl);refine⟨(h0 _ _).trans b1 ?_,tail_agree b2⟩;simp
  simp only[if_neg h11]
  by_cases hk12:k=12
  ·simp only[if_pos hk12]
   have hl:kids.length=2:=h12.resolve_left (by simp[hk12]);obtain⟨a1,a2⟩:=gro_variable hG { r1 with next:=r1.next+1,vis:=if i then setL r1.vis (r1.next:Int) (sortI (allS s1)) else r1.vis } { r2 with next:=r2.next+1,vis:=if i then setL r2.vis (r2.next:Int) (sortI (allS s2)) else r2.vis } 4 r1.next r2.next (.node k x a e kids) (cons_agree (l:=[]) (m:=[]) hs rfl);obtain⟨b1,b2⟩:=gro_visits hG kids i 0 2 s1 s2 _ _ hks hs;refine⟨((h0 _ _).trans (a1.trans b1 rfl) ?_),addTop_agree b2 (head_agree a2)⟩;rw[← hl];simp
  simp only[if_neg hk12]
  by_cases hk16:k=16
  ·simp only[if_pos hk16]
   have hl:kids.length=3:=h16.resolve_left (by simp[hk16]);obtain⟨a1,a2⟩:=gro_variable hG { r1 with next:=r1.next+1,vis:=if i then setL r1.vis (r1.next:Int) (sortI (allS s1)) else r1.vis } { r2 with next:=r2.next+1,vis:=if i then setL r2.vis (r2.next:Int) (sortI (allS s2)) else r2.vis } 5 r1.next r2.next (.node k x a e kids) (cons_agree (l:=[]) (m:=[]) hs rfl);obtain⟨b1,b2⟩:=gro_visits hG kids i 0 2 s1 s2 _ _ hks hs;obtain⟨c1,c2⟩:=gro_visits hG kids i 2 1 _ _ _ _ hks (cons_agree b2 (head_agree a2));refine⟨((h0 _ _).trans (a1.trans (b1.trans c1 rfl) rfl) ?_),tail_agree c2⟩
   match kids,hl with
   | [a,b,c],_=>simp[countsM];omega
  simp only[if_neg hk16]
  have hb:∀ u1 u2,Gro 1 r1 u1 r2 u2→Gro (1+countsM kids) r1 (visitsM G1 i kids 0 kids.length s1 u1).1 r2 (visitsM G2 i kids 0 kids.length s2 u2).1∧namesS (visitsM G1 i kids 0 kids.length s1 u1).2=namesS (visitsM G2 i kids 0 kids.length s2 u2).2:=fun u1 u2 hu=>by
   obtain⟨b1,b2⟩:=gro_visits hG kids i 0 kids.length s1 s2 u1 u2 hks hs;exact⟨hu.trans b1 (by simp),b2⟩
  apply hb
  by_cases h20:k=20
  ·simp only[if_pos h20];exact(h0 _ _).trans (gro_use _ _ _ _ _ _ _ (findS_agree hs x)) rfl
  simp only[if_neg h20]
  by_cases h22:k=22
  ·simp only[if_pos h22];exact(h0 _ _).trans (gro_use _ _ _ _ _ _ _ (hG.fl x)) rfl
  simp only[if_neg h22]
  by_cases h27:k=27
  ·simp only[if_pos h27];exact(h0 _ _).trans (gro_use _ _ _ _ _ _ _ (hG.gl x)) rfl
  simp only[if_neg h27]
  by_cases h19:k=19
  ·simp only[if_pos h19];exact(h0 _ _).trans (gro_use _ _ _ _ _ _ _ (hG.kd x 5)) rfl
  simp only[if_neg h19]
  by_cases h9:k=9∧isScalar x=false
  ·simp only[if_pos h9];exact(h0 _ _).trans (gro_use _ _ _ _ _ _ _ (hG.kd x 3)) rfl
  simp only[if_neg h9];exact h0 _ _
theorem gro_visits {G1 G2:Glob} (hG:Agree G1 G2):∀ (ts:List Tree) (i:Bool) (from_ n:Nat) (s1 s2:Scope) (r1 r2:RS),InTs ts=true→namesS s1=namesS s2 →
 Gro (countsM ((ts.drop from_).take n)) r1 (visitsM G1 i ts from_ n s1 r1).1 r2 (visitsM G2 i ts from_ n s2 r2).1∧namesS (visitsM G1 i ts from_ n s1 r1).2=namesS (visitsM G2 i ts from_ n s2 r2).2
 | [],i,f,n,s1,s2,r1,r2,_,hs=>by
  rw[visitsM,visitsM]
  simpa [countsM] using ⟨Gro.refl r1 r2,hs⟩
 | t :: ts,i,f+1,n,s1,s2,r1,r2,hin,hs=>by
  rw[InTs,Bool.and_eq_true]at hin;rw[visitsM,visitsM,List.drop_succ_cons];exact gro_visits hG ts i f n s1 s2 r1 r2 hin.2 hs
 | t :: ts,i,0,0,s1,s2,r1,r2,hin,hs=>by
  rw[visitsM,visitsM]
  simpa [countsM] using ⟨Gro.refl r1 r2,hs⟩
 | t :: ts,i,0,n+1,s1,s2,r1,r2,hin,hs=>by
  rw[InTs,Bool.and_eq_true]at hin;rw[visitsM,visitsM];obtain⟨a1,a2⟩:=gro_visit hG t i s1 s2 r1 r2 hin.1 hs;obtain⟨b1,b2⟩:=gro_visits hG ts i 0 n _ _ _ _ hin.2 a2;refine⟨a1.trans b1 ?_,b2⟩;simp[countsM]
end
end Go.Proofs.YtoepemlnlpamlaaGreat
namespace Go.Proofs.YtoepemlnlpamlaaGreat
set_option maxRecDepth 100000
set_option maxHeartbeats 4000000
def numK:List Tree→Nat→List (Tree × Nat)
 | [],_=>[]
 | k :: ks,n=>(k,n) :: numK ks (n+countM k)
theorem lookL_setL {K V:Type} [DecidableEq K]:∀ (l:List (K × V)) (k:K) (v:V) (x:K),lookL (setL l k v) x=if x=k then some v else lookL l x
 | [],k,v,x=>rfl
 | y :: l,k,v,x=>by
  rw[setL]
  by_cases h:k=y.1
  ·rw[if_pos h,lookL,lookL]
   by_cases hx:x=k
   ·rw[if_pos hx,if_pos hx]
   ·rw[if_neg hx,if_neg hx,if_neg (by rw[← h];exact hx)]
  ·rw[if_neg h,lookL,lookL_setL l,lookL]
   by_cases hx:x=y.1
   ·rw[if_pos hx,if_pos hx,if_neg (by rw[hx];exact fun e=>h e.symm)]
   ·rw[if_neg hx,if_neg hx]
theorem countM_one (t:Tree):1≤countM t:=by cases t;simp[countM]
theorem countM_kids (t:Tree):countM t=1+countsM t.kids:=by cases t;rfl
def globM (ks:List Tree):Glob:=collectK ks 1 ⟨[],[],[]⟩
end Go.Proofs.YtoepemlnlpamlaaGreat
