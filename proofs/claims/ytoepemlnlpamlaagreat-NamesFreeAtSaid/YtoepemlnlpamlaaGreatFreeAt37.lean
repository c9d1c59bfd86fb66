/- The law NamesFreeAt holds: for every text and every number the law returns true, and its arguments read as before. No condition. Part 37: Path Get At2. -/
import Derived.Test.YtoepemlnlpamlaaGreatFreeAt21
import Derived.Test.YtoepemlnlpamlaaGreatFreeAt34
import Derived.Test.YtoepemlnlpamlaaGreatFreeAt36
namespace Go.Proofs.YtoepemlnlpamlaaGreat
set_option maxRecDepth 100000
set_option maxHeartbeats 4000000
open Go.RowKit
def follow:Tree→List Nat→Option Tree
 | t,[]=>some t
 | t,i :: p=>(t.kids[i]?).bind fun k=>follow k p
theorem follow_snoc:∀ {p:List Nat} {t y z:Tree} {i:Nat},follow t p=some y→y.kids[i]? = some z→follow t (p ++ [i])=some z
 | [],t,y,z,i,h,hz=>by
  simp only[follow,Option.some.injEq]at h;subst h;simp[follow,hz]
 | j :: p,t,y,z,i,h,hz=>by
  rw[follow]at h;rw[List.cons_append,follow]
  cases hk:t.kids[j]? with
  | none=>rw[hk]at h;cases h
  | some k =>
   rw[hk]at h;exact follow_snoc (p:=p) h hz
def numP:Tree→List Nat→Nat
 | _,[]=>0
 | t,i :: p=>match t.kids[i]? with
  | none=>0
  | some k=>1+countsM (t.kids.take i)+numP k p
theorem numP_snoc:∀ {p:List Nat} {t y z:Tree} {i:Nat},follow t p=some y→y.kids[i]? = some z→numP t (p ++ [i])=numP t p+(1+countsM (y.kids.take i))
 | [],t,y,z,i,h,hz=>by
  simp only[follow,Option.some.injEq]at h;subst h;simp[numP,hz]
 | j :: p,t,y,z,i,h,hz=>by
  rw[follow]at h;rw[List.cons_append,numP,numP]
  cases hk:t.kids[j]? with
  | none=>rw[hk]at h;cases h
  | some k =>
   rw[hk]at h;have:=numP_snoc (p:=p) (t:=k) h hz;simp only;omega
def pathV (p:List Nat):List Value:=p.map (fun (i:Nat)=>Value.int .i64 (i:Int))
theorem nodesL_step {ts:List Tree} {i j:Nat} {y:Tree} (h:(nodesL (ts.drop i))[j]? = some y) :
 ∃ z,ts[i]? = some z∧((countM z≤j∧(nodesL (ts.drop (i+1)))[j - countM z]? = some y)∨(j < countM z∧(nodesM z)[j]? = some y)):=by
 cases hd:ts.drop i with
 | nil=>rw[hd]at h;simp[nodesL]at h
 | cons z r =>
  have hz:ts[i]? = some z:=by
   have:=congrArg (fun l=>l[0]?) hd
   simpa using this
  have hr:ts.drop (i+1)=r:=by
   have:=congrArg (List.drop 1) hd;rw[List.drop_drop]at this;rw[this];rfl
  rw[hd,nodesL]at h;refine⟨z,hz,?_⟩
  by_cases hj:j < countM z
  ·rw[List.getElem?_append_left (by rw[nodesM_len];exact hj)]at h
   exact .inr ⟨hj,h⟩
  ·rw[List.getElem?_append_right (by rw[nodesM_len];omega),nodesM_len]at h
   exact .inl ⟨by omega,by rw[hr];exact h⟩
theorem Blk.of_set5 {w:World} {g:Nat} {t:TypeId} {a0 b0 c0 d0 e0:Value} (h:Blk w g t #[a0,b0,c0,d0,e0]) (a b c d e:Value):Blk (set5 w g a b c d e) g t #[a,b,c,d,e]:=by
 have:=((((h.set_ 0 a).set_ 1 b).set_ 2 c).set_ 3 d).set_ 4 e;unfold set5
 simpa using this
theorem set5_since {w:World} {g:Nat} {a b c d e:Value}:Since (fun x=>x=g) w (set5 w g a b c d e):=by
 unfold set5;exact(((((Since.refl (fun x=>x=g) w).setCell (.inl rfl) _).setCell (.inl rfl) _).setCell (.inl rfl) _).setCell (.inl rfl) _).setCell (.inl rfl) _
theorem Path_any (t:Tree) (A:Option Addr) (c:Nat) (num:Int) (w:World) (hN:countM t≤1000000) (hcap:t.kids.length≤c) (hk:KidsAt w w.heap.size A 0 t.kids) :
 Calls Tryz.prog 23 #[nodeV t A c,.int .i64 num] w fun e w' =>
  (e = .returned (.tuple #[.slice none 0 0,.bool false])∧Below w.heap.size w w'∧(num < 0∨(countM t:Int)≤num)) ∨
  (∃ m p y PA pc,num=((m:Nat):Int)∧e = .returned (.tuple #[.slice PA (List.length p) pc,.bool true])∧(nodesM t)[m]? = some y∧follow t p=some y∧p.length≤1000000∧OwnS w' w.heap.size 3 1 (.slice PA p.length pc) p.length (pathV p)∧Below w.heap.size w w'∧numP t p=m):=by
 obtain⟨i0,hi0,hz0,hz1,hz2⟩:=info_parts int_info;obtain⟨k0,x0,a0,z0,n0,-,-,-,-,hn0,hnv⟩:=node_named t A c;rw[hnv]
 obtain⟨W1,hW1⟩:∃ W1,w.alloc (.cells #[.int .i64 k0,.string x0,.int .i64 a0,.int .i64 z0,.slice A n0 c] 24)=W1:=⟨_,rfl⟩
 have hnb:Blk W1 w.heap.size 24 #[.int .i64 k0,.string x0,.int .i64 a0,.int .i64 z0,.slice A n0 c]:=by rw[← hW1];exact Blk.new w _ _
 have hb1:Below w.heap.size w W1:=by rw[← hW1];exact below_alloc w _
 have hcount:=count3_any (countM t) t A c W1 (Nat.le_refl _) (by omega) (KidsAt.mono hb1.size _ _ _ (KidsAt.below hb1 (Nat.le_refl _) _ _ _ hk));rw[hnv]at hcount
 obtain⟨ct,hct⟩:∃ q,countM t=q:=⟨_,rfl⟩
 rw[hct]at hcount hN;have HNB:=kH hnb;have HB1:=kH hb1;have HC:=kH hcount;have HCT:=kH hct;have HK:=kH hk;have HCAP:=kH hcap;have HN0:=kH hn0;have m0:=hnb.cell 0;have m1:=hnb.cell 1;have m2:=hnb.cell 2;have m3:=hnb.cell 3;have m4:=hnb.cell 4;have lm:=hnb.lt;have HND:Hid ((#[.int .i64 t.kind,.string t.text,.int .i64 t.at_,.int .i64 t.end_,.slice A t.kids.length c]:Array Value) = #[.int .i64 k0,.string x0,.int .i64 a0,.int .i64 z0,.slice A n0 c]):=kH (by unfold nodeV at hnv;injection hnv);clear hcount hnb hb1 hct hk hcap hn0 hnv
 by_cases hneg:num < 0
 ·go_enter Tryz.func23,Tryz.ntmps23
  go_wp2_with (rw[hW1])
  try simp only[Exit.inBlock,Exit.then]
  refine bodyPost_ret (v:=.tuple #[.slice none 0 0,.bool false]) (by simp[results,Tryz.results23,go_sem]) rfl ?_;exact .inl ⟨rfl,HB1.out,.inl (by first | exact hneg | omega)⟩
 ·obtain⟨m,rfl⟩:=Int.eq_ofNat_of_zero_le (Int.not_lt.1 hneg)
  have hneg':¬ ((m:Int) < 0):=by omega
  clear hneg
  go_enter Tryz.func23,Tryz.ntmps23
  go_wp2_with (rw[hW1])
  refine HC.out.mono ?_;rintro e w2 ⟨rfl,hb2⟩;have HB2:Hid (Below w.heap.size w w2):=kH (HB1.out.trans (hb2.mono HB1.out.size));have hn2:=HNB.out.below hb2 HNB.out.lt;clear hW1 m0 m1 m2 m3 m4 lm hb2
  by_cases hge:ct≤m
  ·have hge':(ct:Int)≤(m:Int):=by omega
   go_wp2_with fail
   try simp only[Exit.inBlock,Exit.then]
   refine bodyPost_ret (v:=.tuple #[.slice none 0 0,.bool false]) (by simp[results,Tryz.results23,go_sem]) rfl ?_;exact .inl ⟨rfl,HB2.out,.inr (by rw[HCT.out];omega)⟩
  ·have hlt:(m:Int) < (ct:Int):=by omega
   obtain⟨y,hy⟩:∃ y,(nodesM t)[m]? = some y:=⟨_,List.getElem?_eq_getElem (by rw[nodesM_len,HCT.out];omega)⟩
   have HY:=kH hy;have HN2:=kH hn2;have hw1:IntKind.i64.wrap ((m:Int) - 1)=(m:Int) - 1:=IntWalk.i64_in _ (by omega);clear hy hn2
   go_wp2_with fail
   obtain⟨W3,hW3⟩:∃ W3,w2.alloc (.cells #[] 3)=W3:=⟨_,rfl⟩
   have hb3:Below w2.heap.size w2 W3:=by rw[← hW3];exact below_alloc w2 _
   have hE3:Blk W3 w2.heap.size 3 #[]:=by rw[← hW3];exact Blk.new w2 _ _
   have ho3:OwnS W3 (w.heap.size+1) 3 1 (.slice (some ⟨w2.heap.size,0,none⟩) 0 0) 0 []:=OwnS.block (n:=0) (cur:=#[]) HN2.out.lt hE3 (by simp[maxLen]) rfl;have hn3:=HN2.out.below hb3 HN2.out.lt;have HB3:Hid (Below w.heap.size w W3):=kH (HB2.out.trans (hb3.mono HB2.out.size));have HO3:=kH ho3;have HN3:=kH hn3;clear hb3 hE3 ho3 hn3;rw[hW3];clear hW3
   go_loopg [1,6] (m+1) (fun gk s1 s6 wr => ∃ (u:Tree) (Au:Option Addr) (cu k:Nat) (p:List Nat) (PA:Option Addr) (pc:Nat),k < gk∧s1 = .int .i64 ((k:Int) - 1)∧s6 = .slice PA p.length pc∧Below w.heap.size w wr∧Blk wr w.heap.size 24 #[.int .i64 u.kind,.string u.text,.int .i64 u.at_,.int .i64 u.end_,.slice Au u.kids.length cu]∧OwnS wr (w.heap.size+1) 3 1 (.slice PA p.length pc) p.length (pathV p)∧follow t p=some u∧(nodesM u)[k]? = some y∧KidsAt w w.heap.size Au 0 u.kids∧p.length+countM u≤ct∧numP t p+k=m)
   case atStart =>
    exact⟨t,A,c,m,[],some ⟨w2.heap.size,0,none⟩,0,by omega,rfl,rfl,HB3.out,by have:=HN3.out;have h5:=HND.out;rw[h5];exact this,HO3.out,rfl,HY.out,HK.out,by have:=HCT.out;simp;omega,by simp[numP]⟩
   case round =>
    obtain⟨u,Au,cu,k,p,PA,pc,hkg,rfl,rfl,hB,hNu,hO,hF,hY,hKu,hcu,hnum⟩:=hrel
    obtain⟨wo,hwo⟩:∃ wo:World,wo=wr:=⟨_,rfl⟩
    subst hwo
    obtain⟨go,hgo⟩:∃ go:Nat,go=gk:=⟨_,rfl⟩
    subst hgo
    cases k with
    | zero =>
     have e0:(((0:Nat):Int) - 1) = -1:=rfl;rw[e0]
     have hyu:u=y:=by rw[nodesM_eq]at hY;simpa using hY
     subst hyu
     obtain⟨pn,hpn⟩:∃ q,p.length=q:=⟨_,rfl⟩
     have HEND:Hid (∃ m' p' y' PA' pc',(m:Int)=((m':Nat):Int)∧Ending.returned (.tuple #[.slice PA pn pc,.bool true]) = .returned (.tuple #[.slice PA' (List.length p') pc',.bool true])∧(nodesM t)[m']? = some y'∧follow t p'=some y'∧p'.length≤1000000∧OwnS wo w.heap.size 3 1 (.slice PA' p'.length pc') p'.length (pathV p')∧Below w.heap.size w wo∧numP t p'=m'):=kH ⟨m,p,u,PA,pc,rfl,by rw[hpn],HY.out,hF,by omega,hO.mono (by omega),hB,by omega⟩;rw[hpn];clear hO hF hB hNu hKu hcu hpn hY hkg hnum
     go_wp2_with fail
     try simp only[Exit.inBlock,Exit.then]
     refine bodyPost_ret (v:=.tuple #[.slice PA pn pc,.bool true]) (by simp[results,Tryz.results23,go_sem]) rfl ?_;exact .inr HEND.out
    | succ k =>
     have e0:(((k+1:Nat):Int) - 1)=(k:Int):=by omega
     rw[e0]
     have hkn:k+1 < countM u:=by rw[← nodesM_len];exact(List.getElem?_eq_some_iff.1 hY).1
     have hY':(nodesL (u.kids.drop 0))[k]? = some y:=by rw[nodesM_eq]at hY;simpa using hY
     have HY':=kH hY'
     have hkb:k≤1000000:=by omega
     have hbig:countM u≤1000000:=by omega
     have hpl:p.length+1≤ct:=by omega
     obtain⟨n,hn⟩:∃ q,u.kids.length=q:=⟨_,rfl⟩
     obtain⟨pn,hpn⟩:∃ q,p.length=q:=⟨_,rfl⟩
     obtain⟨ku,hku⟩:∃ q,u.kind=q:=⟨_,rfl⟩
     obtain⟨xu,hxu⟩:∃ q,u.text=q:=⟨_,rfl⟩
     obtain⟨au,hau⟩:∃ q,u.at_=q:=⟨_,rfl⟩
     obtain⟨zu,hzu⟩:∃ q,u.end_=q:=⟨_,rfl⟩
     rw[hn,hku,hxu,hau,hzu]at hNu;rw[hpn]at hO hpl ⊢
     have hnk:n≤1000000:=by have h1:=counts_len u.kids;have h2:=countM_eq u;omega
     have HB:=kH hB;have HNu:=kH hNu;have HO:=kH hO;have HF:=kH hF;have HKu:=kH hKu;have HN:=kH hn;have HPN:=kH hpn;have HCU:=kH hcu;have HKG:=kH hkg;have HNUM:=kH hnum;have b4:=hNu.cell 4;have lb:=hNu.lt
     have hk0':(0:Int)≤(k:Int):=by omega
     clear hB hNu hO hF hKu hn hpn hcu hkg hY hY' hkn e0 hku hxu hau hzu hnum
     go_wp2_with fail
     go_loopg [1,7] n (fun gi s1 s7 wi => ∃ i j:Nat,s1 = .int .i64 (j:Int)∧s7 = .int .i64 (i:Int)∧i+gi=n∧j≤k∧(nodesL (u.kids.drop i))[j]? = some y∧Below wo.heap.size wo wi∧j+countsM (u.kids.take i)=k)
     case atStart=>exact⟨0,k,rfl,rfl,by omega,Nat.le_refl _,HY'.out,Below.refl _ _,by simp[countsM]⟩
     case round =>
      obtain⟨i,j,rfl,rfl,hin,hjk,hyj,hBi,hjs⟩:=hrel;obtain⟨z,hz,halt⟩:=nodesL_step hyj;obtain⟨vals,⟨b,off,hA,hbl,hcs⟩,hT⟩:=HKu.out.get i z hz;rw[Nat.zero_add]at hcs;obtain⟨Az,cz,hvals,hKz⟩:=hT.five;subst hA;subst hvals
      have hlt:i < n:=by rw[← HN.out];exact(List.getElem?_eq_some_iff.1 hz).1
      have hBw:=HB.out.trans (hBi.mono HB.out.size);obtain⟨kz,xz,az,ez,zn,hk5,hx5,ha5,he5,hn5,hnv5⟩:=node_named z Az cz;rw[hk5,hx5,ha5,he5,hn5]at hcs
      have hcellw:∀ (q:Nat) (v:Value),[Value.int .i64 kz,.string xz,.int .i64 az,.int .i64 ez,.slice Az zn cz][q]? = some v→w.cell? ⟨b,off+i * 5+q,none⟩=some v:=fun q v hq=>hcs q v hq
      have hup:∀ wx,Below w.heap.size w wx→wx.cell? ⟨b,off+i * 5,none⟩=some (.int .i64 kz)∧wx.cell? ⟨b,off+i * 5+1,none⟩=some (.string xz)∧wx.cell? ⟨b,off+i * 5+2,none⟩=some (.int .i64 az)∧wx.cell? ⟨b,off+i * 5+3,none⟩=some (.int .i64 ez)∧wx.cell? ⟨b,off+i * 5+4,none⟩=some (.slice Az zn cz):=fun wx hb=>⟨(hb.cell (p:=⟨b,_,none⟩) hbl).trans (by simpa using hcellw 0 _ rfl),(hb.cell (p:=⟨b,_,none⟩) hbl).trans (hcellw 1 _ rfl),(hb.cell (p:=⟨b,_,none⟩) hbl).trans (hcellw 2 _ rfl),(hb.cell (p:=⟨b,_,none⟩) hbl).trans (hcellw 3 _ rfl),(hb.cell (p:=⟨b,_,none⟩) hbl).trans (hcellw 4 _ rfl)⟩
      have hczm:countM z≤countM u:=by
       have h1:=countsM_take u.kids i z hz;have h2:=countsM_le u.kids (i+1);have h3:=countM_eq u;omega
      have hcall:∀ wx,Below w.heap.size w wx→Calls Tryz.prog 39 #[.agg #[.int .i64 kz,.string xz,.int .i64 az,.int .i64 ez,.slice Az zn cz]] wx fun e w'=>e = .returned (.int .i64 (countM z:Int))∧Below wx.heap.size wx w':=fun wx hb=>by
       have:=count3_any (countM z) z Az cz wx (Nat.le_refl _) (by omega) (KidsAt.mono hb.size _ _ _ (KidsAt.below hb (Nat.le_refl _) _ _ _ hKz));rw[hnv5]at this;exact this
      obtain⟨cc,hcc⟩:∃ q,countM z=q:=⟨_,rfl⟩
      rw[hcc]at hcall halt
      have hccb:cc≤1000000:=by omega
      have hbi:=HNu.out.below hBi HNu.out.lt;have d4:=hbi.cell 4;have li:=hbi.lt;obtain⟨t0,t1,t2,t3,t4⟩:=hup _ hBw;have lz:b < wr.heap.size:=Nat.lt_of_lt_of_le hbl hBw.size;have HBI:=kH hBi;have HBW:=kH hBw;have HUP:=kH hup;have HCALL:=kH hcall;have HZ:Hid (u.kids[i]? = some z∧countM z=cc∧countM z < countM u∧KidsAt w w.heap.size Az 0 z.kids∧z.kind=kz∧z.text=xz∧z.at_=az∧z.end_=ez∧z.kids.length=zn):=kH ⟨hz,hcc,by have h1:=countsM_take u.kids i z hz;have h2:=countsM_le u.kids (i+1);have h3:=countM_eq u;omega,hKz,hk5,hx5,ha5,he5,hn5⟩;have HIN:=kH hin
      have hini:(i:Int) < (n:Int):=by omega
      have hw2:IntKind.i64.wrap ((i:Int)+1)=(i:Int)+1:=IntWalk.i64_in _ (by omega);have hw3:IntKind.i64.wrap ((j:Int) - (cc:Int))=(j:Int) - (cc:Int):=IntWalk.i64_in _ (by omega);have hw4:IntKind.i64.wrap ((j:Int) - 1)=(j:Int) - 1:=IntWalk.i64_in _ (by omega);have HJK:=kH hjk;have HTK:Hid (j+countsM (u.kids.take i)=k∧countsM (u.kids.take (i+1))=countsM (u.kids.take i)+cc):=kH ⟨hjs,by rw[countsM_take u.kids i z hz,hcc]⟩;clear hyj hz hcs hT hKz hcellw hup hcall hbi hBi hBw hczm hcc hk5 hx5 ha5 he5 hn5 hnv5 hin hbig hjs
      rcases halt with ⟨hle,hnext⟩ | ⟨hltc,hdown⟩
      ·have HNX:=kH hnext
       have hlei:(cc:Int)≤(j:Int):=by omega
       clear hnext
       go_wp2_with fail
       refine(HCALL.out _ HBW.out).mono ?_;rintro e w5 ⟨rfl,hb5⟩;have HB5:Hid (Below w.heap.size w w5):=kH (HBW.out.trans (hb5.mono HBW.out.size));have HBI5:Hid (Below wo.heap.size wo w5):=kH (HBI.out.trans (hb5.mono HBI.out.size));have hbi:=HNu.out.below HBI5.out HNu.out.lt;have d4':=hbi.cell 4;have li':=hbi.lt;obtain⟨q0,q1,q2,q3,q4⟩:=HUP.out _ HB5.out;have lz':b < w5.heap.size:=Nat.lt_of_lt_of_le lz hb5.size;clear hb5 hbi t0 t1 t2 t3 t4 d4 li lz
       go_wp2_with fail
       refine(HCALL.out _ HB5.out).mono ?_;rintro e w6 ⟨rfl,hb6⟩;have HBI6:Hid (Below wo.heap.size wo w6):=kH (HBI5.out.trans (hb6.mono HBI5.out.size));clear hb6 q0 q1 q2 q3 q4 d4' li' lz'
       go_wp2_with fail
       go_roundg (gk - 1)
       case measure=>have:=HIN.out;omega
       case rel=>exact⟨i+1,j - cc,by congr 1;omega,by simp,by have:=HIN.out;omega,by have:=HJK.out;omega,HNX.out,HBI6.out,by have:=HTK.out;omega⟩
      ·have HDN:=kH hdown
       have hlti:(j:Int) < (cc:Int):=by omega
       clear hdown
       go_wp2_with fail
       refine(HCALL.out _ HBW.out).mono ?_;rintro e w5 ⟨rfl,hb5⟩;have HB5:Hid (Below w.heap.size w w5):=kH (HBW.out.trans (hb5.mono HBW.out.size));have HBI5:Hid (Below wo.heap.size wo w5):=kH (HBI.out.trans (hb5.mono HBI.out.size));have hbi:=HNu.out.below HBI5.out HNu.out.lt;have HN5:=kH hbi;have ho5:OwnS w5 (w.heap.size+1) 3 1 (.slice PA pn pc) pn (pathV p):=HO.out.below HBI5.out (fun g hg=>(HO.out.lt g hg).2);have HO5:=kH ho5;clear hb5 hbi t0 t1 t2 t3 t4 d4 li lz ho5
       go_wp2_with fail
       have b4':w5.cell? ⟨w.heap.size,4,none⟩=some (.slice (some ⟨b,off,none⟩) n cu):=HN5.out.cell 4;have lb5:=HN5.out.lt
       have hKS:∀ w',Below w.heap.size w w'→w'.cell? ⟨w.heap.size,4,none⟩=some (.slice (some ⟨b,off,none⟩) n cu)→(w'.cell? ⟨w.heap.size,4,none⟩=some (.slice (some ⟨b,off,none⟩) n cu)∧w'.cell? ⟨b,off+i * 5,none⟩=some (.int .i64 kz)∧w'.cell? ⟨b,off+i * 5+1,none⟩=some (.string xz)∧w'.cell? ⟨b,off+i * 5+2,none⟩=some (.int .i64 az)∧w'.cell? ⟨b,off+i * 5+3,none⟩=some (.int .i64 ez)∧w'.cell? ⟨b,off+i * 5+4,none⟩=some (.slice Az zn cz)):=fun w' hb h4=>⟨h4,HUP.out _ hb⟩
       have hS0:=hKS w5.drew HB5.out.drew b4';refine wp_region_HQ (fun w'=>w'.cell? ⟨w.heap.size,4,none⟩=some (.slice (some ⟨b,off,none⟩) n cu)∧w'.cell? ⟨b,off+i * 5,none⟩=some (.int .i64 kz)∧w'.cell? ⟨b,off+i * 5+1,none⟩=some (.string xz)∧w'.cell? ⟨b,off+i * 5+2,none⟩=some (.int .i64 az)∧w'.cell? ⟨b,off+i * 5+3,none⟩=some (.int .i64 ez)∧w'.cell? ⟨b,off+i * 5+4,none⟩=some (.slice Az zn cz)) (fun _=>True) [9,10,12,13] [(9,0),(10,0),(0,1),(1,1),(4,1),(5,1),(6,1),(7,1),(8,1),(2,2),(3,2),(11,2),(12,2),(13,2)] (by kernel_rfl) (by kernel_rfl) rfl (by kernel_rfl) ?_
       iterate 2(refine wpHQ_softT (by simp only[List.getElem?_toArray,List.getElem?_cons_succ,List.getElem?_cons_zero];rfl) (by rfl) trivial (by intro w' hSw;go_simp;rfl) ?_;simp only[Act.put,sA,sZ,sC])
       refine wpHQ_softS (by simp only[List.getElem?_toArray,List.getElem?_cons_zero];rfl) (by rfl) ⟨trivial,hS0⟩ (by intro w' hSw;obtain⟨-,hs0,hs1,hs2,hs3,hs4,hs5⟩:=hSw;go_simp;rfl) ?_
       iterate 6(simp only[Act.put,sA,sZ,sC];refine wpHQ_softS (by simp only[List.getElem?_toArray,List.getElem?_cons_succ,List.getElem?_cons_zero];rfl) (by rfl) ⟨trivial,hS0⟩ (by intro w' hSw;obtain⟨-,hs0,hs1,hs2,hs3,hs4,hs5⟩:=hSw;go_simp;rfl) ?_)
       simp only[Act.put,sA,sZ,sC];refine wpHQ_run (w':=w5.drew.alloc (.cells #[.int .i64 (i:Int)] 3)) (by simp only[List.getElem?_toArray,List.getElem?_cons_succ,List.getElem?_cons_zero];rfl) (by rfl) (by go_simp;rfl) trivial (fun _=>hKS _ (HB5.out.drew.alloc HB5.out.size _) (by go_simp)) ?_;simp only[Act.put,sA,sZ,sC];refine wpHQ_law (by simp only[List.getElem?_toArray,List.getElem?_cons_succ,List.getElem?_cons_zero];rfl) (by rfl) ?_;refine(wp_append_S _ (.tmp 39) (.tmp 41) _ rfl (w.heap.size+1) 3 i0 _ 1 8 Tryz.underlying28 hi0 hz0 hz1 hz2 rfl (.slice PA pn pc) pn (pathV p) rfl (HO5.out.drew.alloc _) ⟨w5.heap.size,0,none⟩ 1 1 [.int .i64 (i:Int)] rfl rfl (news_one _ _ _ (by go_simp)) (by simp[Value.oneCell']) (by simp only[maxLen];omega) (by omega) (by simp;omega) ?_);intro v6 w6 hown hgrow hat;obtain⟨A6,c6,hv6,-,-⟩:=hown.shape;subst hv6
       have hne:some w.heap.size≠(Value.slice PA pn pc).ownBlock:=fun h=>by have:=(HO5.out.lt _ h.symm).1;omega
       have hN6:Blk w6 w.heap.size 24 _:=Blk.grown (HN5.out.drew.alloc _) hgrow hne;have hs6:Since (fun g=>w.heap.size+1≤g) w5.drew w6:=((Since.refl (fun g=>w.heap.size+1≤g) w5.drew).alloc _).grown hgrow (fun g hg=>.inl (HO5.out.lt g hg).1);have hb6:Below w.heap.size w w6:=HB5.out.drew.trans (hs6.toBelow HB5.out.size (fun g hg=>by omega));have hS6:=hKS w6 hb6 (hN6.cell 4);refine⟨⟨trivial,fun _=>hS6⟩,?_⟩;simp only[Act.put,sA,sZ,sC];obtain⟨-,g0,g1,g2,g3,g4⟩:=hN6.five;obtain⟨⟨y0,y1,y2,y3,y4⟩,-⟩:=hN6.five;refine wpHQ_run (w':=w6) (by simp only[List.getElem?_toArray,List.getElem?_cons_succ,List.getElem?_cons_zero];rfl) (by rfl) (by go_simp;rfl) trivial (fun _=>hS6) ?_;simp only[Act.put,sA,sZ,sC];refine wpHQ_skip (w':=set5 w6 w.heap.size (.int .i64 kz) (.string xz) (.int .i64 az) (.int .i64 ez) (.slice Az zn cz)) (by simp only[List.getElem?_toArray,List.getElem?_cons_succ,List.getElem?_cons_zero];rfl) (by rfl) (by go_simp;rfl) trivial (fun h=>by cases h) ?_;simp only[Act.put];refine wpHQ_run (w':=set5 w6 w.heap.size (.int .i64 kz) (.string xz) (.int .i64 az) (.int .i64 ez) (.slice Az zn cz)) (by simp only[List.getElem?_toArray,List.getElem?_cons_succ,List.getElem?_cons_zero];rfl) (by rfl) (by go_simp;rfl) trivial (fun h=>by cases h) ?_;simp only[Act.put,sA,sZ,sC];refine wpHQ_nil ?_
       obtain⟨W7,hW7⟩:∃ W7,set5 w6 w.heap.size (.int .i64 kz) (.string xz) (.int .i64 az) (.int .i64 ez) (.slice Az zn cz)=W7:=⟨_,rfl⟩
       have hs7:Since (fun x=>x=w.heap.size) w6 W7:=by rw[← hW7];exact set5_since
       have hn7:Blk W7 w.heap.size 24 #[.int .i64 kz,.string xz,.int .i64 az,.int .i64 ez,.slice Az zn cz]:=by rw[← hW7];exact Blk.of_set5 hN6 _ _ _ _ _
       have hb7:Below w.heap.size w W7:=hb6.trans (hs7.toBelow hb6.size (fun g hg=>by omega))
       have ho7:OwnS W7 (w.heap.size+1) 3 1 (.slice A6 (pn+1) c6) (pn+1) (pathV (p ++ [i])):=by
        have h1:=hown.since hs7 (fun g hg hq=>by have:=(hown.lt g hg).1;omega)
        have h2:pathV (p ++ [i])=pathV p ++ [.int .i64 (i:Int)]:=by simp[pathV]
        rw[h2];exact h1
       have HN7:=kH hn7;have HB7:=kH hb7;have HO7:=kH ho7;rw[hW7];clear hW7 hs7 hn7 hb7 ho7 hown hgrow hat hne hN6 hs6 hb6 hS6 hKS hS0 g0 g1 g2 g3 g4 y0 y1 y2 y3 y4 b4' lb5 b4 lb
       go_wp2_with fail
       go_roundg (go - 1)
       case measure=>have:=HKG.out;omega
       case rel =>
        obtain⟨z1,z2,z3,z4,z5,z6,z7,z8,z9⟩:=HZ.out
        have hpl':(p ++ [i]).length=pn+1:=by rw[List.length_append,HPN.out];rfl
        refine⟨z,Az,cz,j,p ++ [i],A6,c6,?_,by simp,by rw[hpl'],HB7.out,?_,?_,follow_snoc HF.out z1,HDN.out,z4,?_,?_⟩
        ·have:=HKG.out;have:=HJK.out;omega
        ·rw[z5,z6,z7,z8,z9];exact HN7.out
        ·rw[hpl'];exact HO7.out
        ·rw[hpl'];have:=HCU.out;have:=HPN.out;omega
        ·rw[numP_snoc HF.out z1];have:=HNUM.out;have:=HTK.out;omega
end Go.Proofs.YtoepemlnlpamlaaGreat
namespace Go.Proofs.YtoepemlnlpamlaaGreat
set_option maxRecDepth 100000
set_option maxHeartbeats 4000000
open Go.RowKit
def natCells (i:Nat):List Value:=[.int .i64 (i:Int)]
theorem follow_drop {p:List Nat} {u y:Tree} {i:Nat} (h:follow u (p.drop i)=some y) {q:Nat} (hq:p[i]? = some q):∃ z,u.kids[q]? = some z∧follow z (p.drop (i+1))=some y:=by
 have hd:p.drop i=q :: p.drop (i+1):=by
  have hlt:i < p.length:=(List.getElem?_eq_some_iff.1 hq).1;rw[List.drop_eq_getElem_cons hlt];rw[List.getElem?_eq_getElem hlt]at hq;rw[Option.some.inj hq]
 rw[hd,follow]at h
 cases hz:u.kids[q]? with
 | none=>rw[hz]at h;cases h
 | some z=>rw[hz]at h;exact⟨z,rfl,h⟩
theorem Get_any (t y:Tree) (A:Option Addr) (c:Nat) (p:List Nat) (PA:Option Addr) (pc:Nat) (w:World) (hN:t.kids.length≤c) (hpl:p.length≤1000000) (hk:KidsAt w w.heap.size A 0 t.kids) (hrow:RowAt 1 natCells w w.heap.size PA p) (hf:follow t p=some y) :
 Calls Tryz.prog 24 #[nodeV t A c,.slice PA p.length pc] w fun e w' => ∃ Ay cy,e = .returned (.tuple #[nodeV y Ay cy,.bool true])∧KidsAt w w.heap.size Ay 0 y.kids∧y.kids.length≤cy∧Below w.heap.size w w':=by
 obtain⟨k0,x0,a0,z0,n0,hk0,hx0,ha0,hz0,hn0,hnv⟩:=node_named t A c;rw[hnv]
 obtain⟨n,hn⟩:∃ q,p.length=q:=⟨_,rfl⟩
 rw[hn]at hpl ⊢;have HK:=kH hk;have HROW:=kH hrow;have HF:=kH hf;have HN:=kH hn;have HT:Hid (t.kind=k0∧t.text=x0∧t.at_=a0∧t.end_=z0∧t.kids.length=n0∧n0≤c):=kH ⟨hk0,hx0,ha0,hz0,hn0,by omega⟩;clear hk hrow hf hn hk0 hx0 ha0 hz0 hn0 hnv hN
 go_enter Tryz.func24,Tryz.ntmps24
 go_wp2_with fail
 obtain⟨W2,hW2⟩:∃ W2,(w.alloc (.cells #[.int .i64 k0,.string x0,.int .i64 a0,.int .i64 z0,.slice A n0 c] 24)).alloc (.cells #[.int .i64 0,.string ⟨#[]⟩,.int .i64 0,.int .i64 0,.slice none 0 0] 24)=W2:=⟨_,rfl⟩
 have hb2:Below w.heap.size w W2:=by rw[← hW2];exact((Below.refl _ w).alloc (Nat.le_refl _) _).alloc (by simp) _
 have hN2:Blk W2 w.heap.size 24 #[.int .i64 k0,.string x0,.int .i64 a0,.int .i64 z0,.slice A n0 c]:=by rw[← hW2];exact(Blk.new w _ _).alloc _
 have hR2:Blk W2 (w.heap.size+1) 24 #[.int .i64 0,.string ⟨#[]⟩,.int .i64 0,.int .i64 0,.slice none 0 0]:=by
  rw[← hW2];have:=Blk.new (w.alloc (.cells #[.int .i64 k0,.string x0,.int .i64 a0,.int .i64 z0,.slice A n0 c] 24)) 24 #[.int .i64 0,.string ⟨#[]⟩,.int .i64 0,.int .i64 0,.slice none 0 0]
  simpa using this
 have HB2:=kH hb2;have HN2:=kH hN2;have HR2:=kH hR2;rw[hW2];clear hb2 hN2 hR2 hW2
 go_loopg [6] n (fun gk s6 wr => ∃ (i:Nat) (u:Tree) (Au:Option Addr) (cu:Nat),s6 = .int .i64 (i:Int)∧i+gk=n∧Below w.heap.size w wr∧Blk wr w.heap.size 24 #[.int .i64 u.kind,.string u.text,.int .i64 u.at_,.int .i64 u.end_,.slice Au u.kids.length cu]∧Blk wr (w.heap.size+1) 24 #[.int .i64 0,.string ⟨#[]⟩,.int .i64 0,.int .i64 0,.slice none 0 0]∧follow u (p.drop i)=some y∧KidsAt w w.heap.size Au 0 u.kids∧u.kids.length≤cu)
 case atStart =>
  obtain⟨g1,g2,g3,g4,g5,g6⟩:=HT.out;exact⟨0,t,A,c,rfl,by omega,HB2.out,by rw[g1,g2,g3,g4,g5];exact HN2.out,HR2.out,HF.out,HK.out,by omega⟩
 case round =>
  obtain⟨i,u,Au,cu,rfl,hin,hB,hNu,hR,hF,hKu,hcu⟩:=hrel
  obtain⟨nu,hnu⟩:∃ q,u.kids.length=q:=⟨_,rfl⟩
  obtain⟨ku,hku⟩:∃ q,u.kind=q:=⟨_,rfl⟩
  obtain⟨xu,hxu⟩:∃ q,u.text=q:=⟨_,rfl⟩
  obtain⟨au,hau⟩:∃ q,u.at_=q:=⟨_,rfl⟩
  obtain⟨zu,hzu⟩:∃ q,u.end_=q:=⟨_,rfl⟩
  rw[hnu,hku,hxu,hau,hzu]at hNu
  have hib:i≤n:=by omega
  have HIN:=kH hin;have HB:=kH hB;have HNU:=kH hNu;have HR:=kH hR;have HKU:=kH hKu;have HU:Hid (u.kind=ku∧u.text=xu∧u.at_=au∧u.end_=zu∧u.kids.length=nu∧nu≤cu):=kH ⟨hku,hxu,hau,hzu,hnu,by omega⟩;obtain⟨⟨b0,b1,b2,b3,b4⟩,f0,f1,f2,f3,f4⟩:=hNu.five;have lb:=hNu.lt
  by_cases hlt:i < n
  ·obtain⟨q,hq⟩:∃ q,p[i]? = some q:=⟨_,List.getElem?_eq_getElem (by rw[HN.out];exact hlt)⟩
   obtain⟨z,hz,hfz⟩:=follow_drop hF hq;obtain⟨rb,ro,hPA,hrb,hrc⟩:=HROW.out i q hq;subst hPA;obtain⟨vals,⟨b,off,hA,hbl,hcs⟩,hTz⟩:=hKu.get q z hz;rw[Nat.zero_add]at hcs;obtain⟨Az,cz,hvals,hKz⟩:=hTz.five;subst hA;subst hvals
   have hqn:q < nu:=by rw[← hnu];exact(List.getElem?_eq_some_iff.1 hz).1
   obtain⟨kz,hkz⟩:∃ q,z.kind=q:=⟨_,rfl⟩
   obtain⟨xz,hxz⟩:∃ q,z.text=q:=⟨_,rfl⟩
   obtain⟨az,haz⟩:∃ q,z.at_=q:=⟨_,rfl⟩
   obtain⟨ez,hez⟩:∃ q,z.end_=q:=⟨_,rfl⟩
   obtain⟨zn,hzn⟩:∃ q,z.kids.length=q:=⟨_,rfl⟩
   rw[hkz,hxz,haz,hez,hzn]at hcs;have hr0:wr.cell? ⟨rb,ro+i,none⟩=some (.int .i64 (q:Int)):=(hB.cell (p:=⟨rb,_,none⟩) hrb).trans (by simpa using hrc 0 _ rfl);have t0:wr.cell? ⟨b,off+q * 5,none⟩=some (.int .i64 kz):=(hB.cell (p:=⟨b,_,none⟩) hbl).trans (by simpa using hcs 0 _ rfl);have t1:wr.cell? ⟨b,off+q * 5+1,none⟩=some (.string xz):=(hB.cell (p:=⟨b,_,none⟩) hbl).trans (hcs 1 _ rfl);have t2:wr.cell? ⟨b,off+q * 5+2,none⟩=some (.int .i64 az):=(hB.cell (p:=⟨b,_,none⟩) hbl).trans (hcs 2 _ rfl);have t3:wr.cell? ⟨b,off+q * 5+3,none⟩=some (.int .i64 ez):=(hB.cell (p:=⟨b,_,none⟩) hbl).trans (hcs 3 _ rfl);have t4:wr.cell? ⟨b,off+q * 5+4,none⟩=some (.slice Az zn cz):=(hB.cell (p:=⟨b,_,none⟩) hbl).trans (hcs 4 _ rfl)
   have hini:(i:Int) < (n:Int):=by omega
   have hq0:¬ ((q:Int) < 0):=by omega
   have hqi:(q:Int) < (nu:Int):=by omega
   have hcz:z.kids.length≤cz:=by
    have:=hTz
    cases z with
    | node k' t' a' e' kids' =>
     obtain⟨A',c',h1,h2,-⟩:=this;simp only[List.cons.injEq,Value.slice.injEq,and_true]at h1;obtain⟨-,-,-,-,-,-,rfl⟩:=h1;exact h2
   have HFZ:=kH hfz;have HZ:Hid (z.kind=kz∧z.text=xz∧z.at_=az∧z.end_=ez∧z.kids.length=zn∧z.kids.length≤cz∧KidsAt w w.heap.size Az 0 z.kids):=kH ⟨hkz,hxz,haz,hez,hzn,hcz,hKz⟩;have hw1:IntKind.i64.wrap ((i:Int)+1)=(i:Int)+1:=IntWalk.i64_in _ (by omega);clear hin hB hNu hR hF hKu hcu hz hfz hq hrc hrb hcs hTz hKz hcz hkz hxz haz hez hzn hku hxu hau hzu hnu
   go_wp2_with fail
   go_quiet (fail)
   go_wp2_with fail
   refine wp_region_HS (fun w'=>w'.cell? ⟨w.heap.size,4,none⟩=some (.slice (some ⟨b,off,none⟩) nu cu)∧w'.cell? ⟨rb,ro+i,none⟩=some (.int .i64 (q:Int))∧w'.cell? ⟨b,off+q * 5,none⟩=some (.int .i64 kz)∧w'.cell? ⟨b,off+q * 5+1,none⟩=some (.string xz)∧w'.cell? ⟨b,off+q * 5+2,none⟩=some (.int .i64 az)∧w'.cell? ⟨b,off+q * 5+3,none⟩=some (.int .i64 ez)∧w'.cell? ⟨b,off+q * 5+4,none⟩=some (.slice Az zn cz)) [8] [true,true,true,true,true,true,true,true,false] (by kernel_rfl) (by kernel_rfl) rfl (by kernel_rfl) ?_
   have hS0:=(⟨b4,hr0,t0,t1,t2,t3,t4⟩:wr.cell? ⟨w.heap.size,4,none⟩=some (.slice (some ⟨b,off,none⟩) nu cu)∧wr.cell? ⟨rb,ro+i,none⟩=some (.int .i64 (q:Int))∧wr.cell? ⟨b,off+q * 5,none⟩=some (.int .i64 kz)∧wr.cell? ⟨b,off+q * 5+1,none⟩=some (.string xz)∧wr.cell? ⟨b,off+q * 5+2,none⟩=some (.int .i64 az)∧wr.cell? ⟨b,off+q * 5+3,none⟩=some (.int .i64 ez)∧wr.cell? ⟨b,off+q * 5+4,none⟩=some (.slice Az zn cz))
   iterate 8(refine wpHS_soft rfl hS0 (by intro w' hSw;obtain⟨hs0,hs1,hs2,hs3,hs4,hs5,hs6⟩:=hSw;go_simp;rfl) ?_;simp only[Act.put,sA,sZ,sC])
   refine wpHS_skip (w':=set5 (wr.drewN (nq+1)) w.heap.size (.int .i64 kz) (.string xz) (.int .i64 az) (.int .i64 ez) (.slice Az zn cz)) rfl (by go_simp;rfl) (fun h=>by cases h) ?_;simp only[Act.put];refine wpHS_nil ?_
   obtain⟨W7,hW7⟩:∃ W7,set5 (wr.drewN (nq+1)) w.heap.size (.int .i64 kz) (.string xz) (.int .i64 az) (.int .i64 ez) (.slice Az zn cz)=W7:=⟨_,rfl⟩
   have hs7:Since (fun x=>x=w.heap.size) (wr.drewN (nq+1)) W7:=by rw[← hW7];exact set5_since
   have hn7:Blk W7 w.heap.size 24 #[.int .i64 kz,.string xz,.int .i64 az,.int .i64 ez,.slice Az zn cz]:=by rw[← hW7];exact Blk.of_set5 (HNU.out.drewN (nq+1)) _ _ _ _ _
   have hr7:=(HR.out.drewN (nq+1)).since hs7 (by omega);have hb7:Below w.heap.size w W7:=(below_drewN HB.out (nq+1)).trans (hs7.toBelow HB.out.size (fun g hg=>by omega));have HN7:=kH hn7;have HB7:=kH hb7;have HR7:=kH hr7;rw[hW7];clear hS0 hW7 hs7 hn7 hr7 hb7 b0 b1 b2 b3 b4 f0 f1 f2 f3 f4 t0 t1 t2 t3 t4 hr0 lb
   go_wp2_with fail
   go_roundg (gk - 1)
   case measure=>have:=HIN.out;omega
   case rel =>
    obtain⟨g1,g2,g3,g4,g5,g6,g7⟩:=HZ.out;exact⟨i+1,z,Az,cz,by simp,by have:=HIN.out;omega,HB7.out,by rw[g1,g2,g3,g4,g5];exact HN7.out,HR7.out,HFZ.out,g7,g6⟩
  ·have hie:i=n:=by omega
   subst hie
   have hyu:u=y:=by
    rw[List.drop_of_length_le (by rw[HN.out];exact Nat.le_refl _)]at hF
    simpa [follow] using hF
   obtain⟨⟨r0,r1,r2,r3,r4⟩,h0,h1,h2,h3,h4⟩:=hR.five;have lr:=hR.lt;clear hin hB hNu hR hF hKu hcu hku hxu hau hzu hnu
   go_wp2_with fail
   try simp only[Exit.inBlock,Exit.then]
   obtain⟨W9,hW9⟩:∃ W9,set5 wr (w.heap.size+1) (.int .i64 ku) (.string xu) (.int .i64 au) (.int .i64 zu) (.slice Au nu cu)=W9:=⟨_,rfl⟩
   have hs9:Since (fun x=>x=w.heap.size+1) wr W9:=by rw[← hW9];exact set5_since
   have hn9:Blk W9 (w.heap.size+1) 24 #[.int .i64 ku,.string xu,.int .i64 au,.int .i64 zu,.slice Au nu cu]:=by rw[← hW9];exact Blk.of_set5 HR.out _ _ _ _ _
   have hb9:Below w.heap.size w W9:=HB.out.trans (hs9.toBelow HB.out.size (fun g hg=>by omega));obtain⟨⟨v0,v1,v2,v3,v4⟩,-⟩:=hn9.five;unfold set5 at hW9;rw[hW9]
   have HEND:Hid (∃ Ay cy,Ending.returned (.tuple #[.agg #[.int .i64 ku,.string xu,.int .i64 au,.int .i64 zu,.slice Au nu cu],.bool true]) = .returned (.tuple #[nodeV y Ay cy,.bool true])∧KidsAt w w.heap.size Ay 0 y.kids∧y.kids.length≤cy∧Below w.heap.size w W9):=by
    obtain⟨g1,g2,g3,g4,g5,g6⟩:=HU.out;refine kH ⟨Au,cu,?_,by rw[← hyu];exact HKU.out,by rw[← hyu,g5];exact g6,hb9⟩;rw[← hyu];unfold nodeV;rw[g1,g2,g3,g4,g5]
   clear hW9 hs9 hn9 hb9 r0 r1 r2 r3 r4 h0 h1 h2 h3 h4 b0 b1 b2 b3 b4 f0 f1 f2 f3 f4;refine bodyPost_ret (v:=.tuple #[.agg #[.int .i64 ku,.string xu,.int .i64 au,.int .i64 zu,.slice Au nu cu],.bool true]) (by simp[results,Tryz.results24,go_sem,v0,v1,v2,v3,v4]) rfl ?_;exact HEND.out
theorem IsStatement_any (k:Int) (w:World):Calls Tryz.prog 26 #[.int .i64 k] w fun e w'=>e = .returned (.bool (decide (12≤k) && decide (k≤19)))∧Below w.heap.size w w':=by
 have e2:Hid (¬ 12≤k→(decide (12≤k) && decide (k≤19))=false):=kH (fun h=>by rw[decide_eq_false h];rfl)
 by_cases h1:12≤k
 ·by_cases h2:k≤19
  ·go_enter Tryz.func26,Tryz.ntmps26
   go_wp2_with fail
   go_ret
   exact⟨rfl,by (repeat (first | exact Below.refl _ _ | assumption | refine Below.trans ?_ (Below.mono (by assumption) (by first | omega | (simp;done) | (simp;omega))) | refine Below.alloc ?_ (by first | omega | (simp;done) | (simp;omega)) _ | refine Below.setCell ?_ (by first | omega | (simp;done) | (simp;omega)) _ | refine Below.drew ?_ | refine below_drewN ?_ _))⟩
  ·go_enter Tryz.func26,Tryz.ntmps26
   go_wp2_with fail
   go_ret
   exact⟨by rw[show decide (k≤19)=false from decide_eq_false (by omega)];rfl,by (repeat (first | exact Below.refl _ _ | assumption | refine Below.trans ?_ (Below.mono (by assumption) (by first | omega | (simp;done) | (simp;omega))) | refine Below.alloc ?_ (by first | omega | (simp;done) | (simp;omega)) _ | refine Below.setCell ?_ (by first | omega | (simp;done) | (simp;omega)) _ | refine Below.drew ?_ | refine below_drewN ?_ _))⟩
 ·go_enter Tryz.func26,Tryz.ntmps26
  go_wp2_with fail
  go_ret
  rw[e2.out (by omega)];exact⟨by first | rfl | (simp;omega),by (repeat (first | exact Below.refl _ _ | assumption | refine Below.trans ?_ (Below.mono (by assumption) (by first | omega | (simp;done) | (simp;omega))) | refine Below.alloc ?_ (by first | omega | (simp;done) | (simp;omega)) _ | refine Below.setCell ?_ (by first | omega | (simp;done) | (simp;omega)) _ | refine Below.drew ?_ | refine below_drewN ?_ _))⟩
end Go.Proofs.YtoepemlnlpamlaaGreat
namespace Go.Proofs.YtoepemlnlpamlaaGreat
set_option maxRecDepth 100000
set_option maxHeartbeats 4000000
mutual
def InB:Tree→Bool
 | .node k _ _ _ kids=>(decide (k < 2) || decide (8 < k)) && (decide (k≠12) || decide (kids.length=2)) && (decide (k≠16) || decide (kids.length=3)) && (decide (k=11) || kids.all fun c=>decide (c.kind≠12)) && InBs kids
def InBs:List Tree→Bool
 | []=>true
 | t :: ts=>InB t && InBs ts
end
theorem inB_parts {k:Int} {x:ByteArray} {a e:Int} {kids:List Tree} (h:InB (.node k x a e kids)=true) :
 (k < 2∨8 < k)∧(k=12→kids.length=2)∧(k=16→kids.length=3)∧(k≠11→∀ c ∈ kids,c.kind≠12)∧InBs kids=true:=by
 rw[InB]at h;simp only[Bool.and_eq_true,Bool.or_eq_true,decide_eq_true_eq,List.all_eq_true]at h;obtain⟨⟨⟨⟨h1,h2⟩,h3⟩,h4⟩,h5⟩:=h;exact⟨h1,fun e=>h2.resolve_left (by simp[e]),fun e=>h3.resolve_left (by simp[e]),fun e=>h4.resolve_left e,h5⟩
theorem addTop_nil (s:Scope):addTop s [] = s:=by cases s <;> rfl
theorem addTop_tail (s:Scope) (l:Lay):(addTop s l).tail=s.tail:=by cases s <;> rfl
def varLay (G:Glob) (t:Tree) (s:Scope) (n:Nat):Lay:=if (findS s t.text).isSome || (layM G.globals t.text).isSome then [] else [(t.text,(n:Int))]
theorem variable_top (G:Glob) (r:RS) (c:Int) (n:Nat) (t:Tree) (s:Scope):(variableM G r c n t ([] :: s)).2.headD [] = varLay G t s n:=by
 unfold variableM varLay;have h:findS ([] :: s) t.text=findS s t.text:=rfl;rw[h]
 split <;> rfl
mutual
theorem scope_visit (G:Glob):∀ (t:Tree) (i:Bool) (s:Scope) (r:RS),InB t=true→(visitM G i t s r).2=if t.kind=12 then addTop s (varLay G t s r.next) else s
 | .node k x a e kids,i,s,r,hin=>by
  obtain⟨hk,h12,h16,hno,hks⟩:=(inB_parts hin)
  have n3:k≠3:=by omega
  have n4:k≠4:=by omega
  have n5:k≠5:=by omega
  have n78:¬ (k=7∨k=8):=by omega
  rw[visitM_eq];rw[if_neg n3,if_neg n4,if_neg n5,if_neg n78]
  show _=if k=12 then _ else _
  by_cases h11:k=11
  ·rw[if_pos h11,if_neg (show k≠12 by omega)]
   exact scope_tail G kids i 0 kids.length ([] :: s) _ hks
  rw[if_neg h11]
  by_cases hk12:k=12
  ·rw[if_pos hk12,if_pos hk12]
   rw[scope_visits G kids i 0 2 s _ hks (hno h11),variable_top]
  rw[if_neg hk12,if_neg hk12]
  by_cases hk16:k=16
  ·rw[if_pos hk16]
   show (visitsM G i kids 2 1 _ _).2.tail=s;rw[scope_visits G kids i 2 1 _ _ hks (hno h11),scope_visits G kids i 0 2 s _ hks (hno h11)];rfl
  rw[if_neg hk16];exact scope_visits G kids i 0 kids.length s _ hks (hno h11)
theorem scope_visits (G:Glob):∀ (ts:List Tree) (i:Bool) (f n:Nat) (s:Scope) (r:RS),InBs ts=true→(∀ c ∈ ts,c.kind≠12)→(visitsM G i ts f n s r).2=s
 | [],_,_,_,_,_,_,_=>by rw[visitsM]
 | t :: ts,i,f+1,n,s,r,hin,hno=>by
  rw[InBs,Bool.and_eq_true]at hin;rw[visitsM]
  exact scope_visits G ts i f n s r hin.2 fun c hc=>hno c (by simp[hc])
 | t :: ts,i,0,0,s,r,_,_=>by rw[visitsM]
 | t :: ts,i,0,n+1,s,r,hin,hno=>by
  rw[InBs,Bool.and_eq_true]at hin;rw[visitsM];rw[scope_visits G ts i 0 n _ _ hin.2 fun c hc=>hno c (by simp[hc]),scope_visit G t i s r hin.1,if_neg (hno t (by simp))]
theorem scope_tail (G:Glob):∀ (ts:List Tree) (i:Bool) (f n:Nat) (s:Scope) (r:RS),InBs ts=true→(visitsM G i ts f n s r).2.tail=s.tail
 | [],_,_,_,_,_,_=>by rw[visitsM]
 | t :: ts,i,f+1,n,s,r,hin=>by
  rw[InBs,Bool.and_eq_true]at hin;rw[visitsM];exact scope_tail G ts i f n s r hin.2
 | t :: ts,i,0,0,s,r,_=>by rw[visitsM]
 | t :: ts,i,0,n+1,s,r,hin=>by
  rw[InBs,Bool.and_eq_true]at hin;rw[visitsM];rw[scope_tail G ts i 0 n _ _ hin.2,scope_visit G t i s r hin.1];split
  ·exact addTop_tail _ _
  ·rfl
end
theorem visit_head (G:Glob) (t:Tree) (i:Bool) (s:Scope) (r:RS):∃ u:RS,u.next=r.next+1∧u.vis=(entM r i (sortI (allS s))).vis∧Rng u (visitM G i t s r).1:=by
 obtain⟨k,x,a,e,kids⟩:=t
 have hv:∀ c s',(variableM G (entM r i (sortI (allS s))) c r.next (.node k x a e kids) s').1.next=r.next+1∧(variableM G (entM r i (sortI (allS s))) c r.next (.node k x a e kids) s').1.vis=(entM r i (sortI (allS s))).vis:=fun c s'=>by
  unfold variableM
  split <;> exact⟨rfl,rfl⟩
 have hd:∀ c b,(declareM (entM r i (sortI (allS s))) c r.next (.node k x a e kids) b).next=r.next+1∧(declareM (entM r i (sortI (allS s))) c r.next (.node k x a e kids) b).vis=(entM r i (sortI (allS s))).vis:=fun c b=>by cases b <;> exact⟨rfl,rfl⟩
 have hu:∀ tq,(useM (entM r i (sortI (allS s))) r.next (.node k x a e kids) tq).next=r.next+1∧(useM (entM r i (sortI (allS s))) r.next (.node k x a e kids) tq).vis=(entM r i (sortI (allS s))).vis:=fun tq=>by cases tq <;> exact⟨rfl,rfl⟩
 rw[visitM_eq];split
 ·refine⟨_,?_,?_,visits_rng _ _ _ _ _ _ _⟩
  ·exact(hd 0 _).1
  ·exact(hd 0 _).2
 split
 ·exact⟨_,(hd _ _).1,(hd _ _).2,visits_rng _ _ _ _ _ _ _⟩
 split
 ·refine⟨_,?_,?_,(visits_rng G kids false 0 2 _ _).trans (visits_rng _ _ _ _ _ _ _)⟩
  ·exact(hd 2 _).1
  ·exact(hd 2 _).2
 split
 ·exact⟨_,(hv _ _).1,(hv _ _).2,visits_rng _ _ _ _ _ _ _⟩
 split
 ·exact⟨_,rfl,rfl,visits_rng _ _ _ _ _ _ _⟩
 split
 ·exact⟨_,(hv _ _).1,(hv _ _).2,visits_rng _ _ _ _ _ _ _⟩
 split
 ·exact⟨_,(hv _ _).1,(hv _ _).2,(visits_rng _ _ _ _ _ _ _).trans (visits_rng _ _ _ _ _ _ _)⟩
 ·unfold useN
  split
  ·exact⟨_,(hu _).1,(hu _).2,visits_rng _ _ _ _ _ _ _⟩
  split
  ·exact⟨_,(hu _).1,(hu _).2,visits_rng _ _ _ _ _ _ _⟩
  split
  ·exact⟨_,(hu _).1,(hu _).2,visits_rng _ _ _ _ _ _ _⟩
  split
  ·exact⟨_,(hu _).1,(hu _).2,visits_rng _ _ _ _ _ _ _⟩
  split
  ·exact⟨_,(hu _).1,(hu _).2,visits_rng _ _ _ _ _ _ _⟩
  ·exact⟨_,rfl,rfl,visits_rng _ _ _ _ _ _ _⟩
theorem vis_self (G:Glob) (t:Tree) (s:Scope) (r:RS):lookL (visitM G true t s r).1.vis (r.next:Int)=some (sortI (allS s)):=by
 obtain⟨u,h1,h2,h3⟩:=visit_head G t true s r;rw[h3.vis r.next (by omega),h2];show lookL (setL r.vis (r.next:Int) (sortI (allS s))) (r.next:Int)=_;rw[lookL_setL,if_pos rfl]
mutual
theorem next_visit (G:Glob):∀ (t:Tree) (i:Bool) (s:Scope) (r:RS),InB t=true→(visitM G i t s r).1.next=r.next+countM t
 | .node k x a e kids,i,s,r,hin=>by
  have hint:∀ (t:Tree),InB t=true→True:=fun _ _=>trivial
  obtain⟨hk,h12,h16,hno,hks⟩:=(inB_parts hin)
  have n3:k≠3:=by omega
  have n4:k≠4:=by omega
  have n5:k≠5:=by omega
  have n78:¬ (k=7∨k=8):=by omega
  have hv:∀ c s',(variableM G (entM r i (sortI (allS s))) c r.next (.node k x a e kids) s').1.next=r.next+1:=fun c s'=>by
   unfold variableM
   split <;> rfl
  have hu:∀ tq,(useM (entM r i (sortI (allS s))) r.next (.node k x a e kids) tq).next=r.next+1:=fun tq=>by cases tq <;> rfl
  have hall:∀ s' (u:RS),u.next=r.next+1→(visitsM G i kids 0 kids.length s' u).1.next=r.next+countM (.node k x a e kids):=fun s' u h=>by
   rw[next_visits G kids i 0 kids.length s' u hks,h,countM]
   simp;omega
  rw[visitM_eq];rw[if_neg n3,if_neg n4,if_neg n5,if_neg n78];split
  ·exact hall _ _ rfl
  split
  ·rename_i _ hk12
   have hl:=h12 hk12;have:=hall s (variableM G (entM r i (sortI (allS s))) 4 r.next (.node k x a e kids) ([] :: s)).1 (hv _ _);rw[hl]at this;exact this
  split
  ·rename_i _ _ hk16
   have hl:=h16 hk16
   match kids,hl,hks with
   | [b,c,d],_,hks =>
    rw[next_visits G [b,c,d] i 2 1 _ _ hks];show (visitsM G i [b,c,d] 0 2 s _).1.next+_=_;rw[next_visits G [b,c,d] i 0 2 s _ hks];show (variableM G (entM r i (sortI (allS s))) 5 r.next (.node k x a e [b,c,d]) ([] :: s)).1.next+_+_=_;rw[hv];simp[countM,countsM];omega
  ·refine hall _ _ ?_
   unfold useN;split
   ·exact hu _
   split
   ·exact hu _
   split
   ·exact hu _
   split
   ·exact hu _
   split
   ·exact hu _
   ·rfl
theorem next_visits (G:Glob):∀ (ts:List Tree) (i:Bool) (f n:Nat) (s:Scope) (r:RS),InBs ts=true→(visitsM G i ts f n s r).1.next=r.next+countsM ((ts.drop f).take n)
 | [],_,_,_,_,_,_=>by rw[visitsM];simp[countsM]
 | t :: ts,i,f+1,n,s,r,hin=>by
  rw[InBs,Bool.and_eq_true]at hin;rw[visitsM,List.drop_succ_cons];exact next_visits G ts i f n s r hin.2
 | t :: ts,i,0,0,s,r,_=>by rw[visitsM];simp[countsM]
 | t :: ts,i,0,n+1,s,r,hin=>by
  rw[InBs,Bool.and_eq_true]at hin;rw[visitsM];rw[next_visits G ts i 0 n _ _ hin.2,next_visit G t i s r hin.1];simp[countsM];omega
end
def Clean (r q:RS):Prop:=q.probs.length=r.probs.length
theorem Clean.split {a b c:RS} (h1:Rng a b) (h2:Rng b c) (h:Clean a c):Clean a b∧Clean b c:=by
 obtain⟨l1,e1,_⟩:=h1.probs;obtain⟨l2,e2,_⟩:=h2.probs;unfold Clean at *;rw[e2,e1]at h;simp at h;rw[e2,e1];simp[h]
end Go.Proofs.YtoepemlnlpamlaaGreat
