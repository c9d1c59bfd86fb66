/- The law NamesBack holds for every text and every number: it returns true, and its arguments read as before. No condition. Part 6: Num Par1 Par2 Held Par3. -/
import Derived.BigRegion
import Derived.RegionTactic
import Derived.ChangeAlike
import Derived.IntWalk
import Derived.Deep.RegionHeld3
import Derived.StillTail
import Derived.WalkKit
import Derived.Test.YtoepemlnlpamlaaGreatBakk05
set_option maxRecDepth 100000
set_option maxHeartbeats 4000000
namespace Go.Proofs.YtoepemlnlpamlaaGreat
open Go.RowKit
theorem Ni(s:ByteArray)(i:Nat)(h:i<s.size):s.data.toList.drop i=(s[i]'h)::s.data.toList.drop (i+1):=by
 rw[List.drop_eq_getElem_cons (by simpa using h)];rfl
theorem VR(s:ByteArray)(w:World)(hs:s.size<=4096):
 Calls Tryz.prog 132 #[.string s] w fun e w'=>e= .returned (.tuple #[.int .i64 (((je s.data.toList).getD 0:Nat):Int),.bool (je s.data.toList).isSome])/\w=w':=by
 by_cases h1:s.size<1
 ·have h1i:(s.size:Int)<1:=by omega
  have hres:je s.data.toList=none:=by unfold je;rw[bS,if_pos (.inl h1)]
  rw[hres];clear hres;go_enter Tryz.func132,Tryz.ntmps132
  go_wp2_with fail
  go_ret2
  exact⟨rfl,rfl⟩
 have h1i:¬(s.size:Int)<1:=by omega
 by_cases h9:9<s.size
 ·have h9i:(9:Int)<s.size:=by omega
  have hres:je s.data.toList=none:=by unfold je;rw[bS,if_pos (.inr h9)]
  rw[hres];clear hres;go_enter Tryz.func132,Tryz.ntmps132
  go_wp2_with fail
  go_ret2
  exact⟨rfl,rfl⟩
 have h9i:¬(9:Int)<s.size:=by omega
 have CV:je s.data.toList=xE s.data.toList 0:=by unfold je;rw[bS,if_neg (by omega)]
 rw[CV];clear CV;go_enter Tryz.func132,Tryz.ntmps132
 go_wp2_with fail
 go_loopg [4,5] (s.size) (fun gk s4 s5 wr=> ∃i n:Nat,i+gk=s.size/\s5= .int .i64 i/\s4= .int .i64 n/\xE s.data.toList 0=xE (s.data.toList.drop i) n/\n<10 ^ i/\w=wr)
 case atStart=>exact⟨0,0,by omega,rfl,rfl,rfl,by decide,rfl⟩
 case round=>
  obtain⟨i,n,hi,rfl,rfl,hnm,hn,rfl⟩:=hrel;have hi':i<=s.size:=by omega
  have HI:=kH hi;have vO:=kH hnm;have HN:=kH hn;clear hi hnm hn;by_cases hlt:i<s.size
  ·have hn8:n<=100000000:=by
    have h2:10 ^ i<=10 ^ 8:=Nat.pow_le_pow_right (by omega) (by omega);have:=HN.out;omega
   have hii:(i:Int)<s.size:=by omega
   have hst:xE (s.data.toList.drop i) n=if fB (s[i]'hlt).toNat then xE (s.data.toList.drop (i+1)) (10*n+((s[i]'hlt).toNat - 48)) else none:=by
    rw[Ni s i hlt,xE]
   obtain⟨c,hc⟩:∃c,(s[i]'hlt).toNat=c:=⟨_,rfl⟩
   rw[hc]at hst;obtain⟨bd,hbd⟩:∃x,fB c=x:=⟨_,rfl⟩
   rw[hbd]at hst;have Hg:=kH hbd;have HST:=kH hst;clear hst hbd;cases bd
   ·have hres:xE s.data.toList 0=none:=by rw[vO.out,HST.out];rfl
    have aM:=kH hres;clear hres;go_wp2_with fail
    refine(mF c _).mono ?_;rintro e w' ⟨rfl,rfl⟩;rw[Hg.out];go_wp2_with fail
    go_ret2
    exact⟨by rw[aM.out];rfl,rfl⟩
   ·have hcd:=Hg.out
    unfold fB at hcd;simp at hcd;obtain⟨hc1,hc2⟩:=hcd;have hc1i:(48:Int)<=(c:Int):=by omega
    have hc2i:(c:Int)<=57:=by omega
    have hn8i:(n:Int)<=100000000:=by omega
    go_wp2_with fail
    refine(mF c _).mono ?_;rintro e w' ⟨rfl,rfl⟩;rw[Hg.out];go_wp2_with fail
    go_roundg (gk - 1)
    case measure=>have:=HI.out;omega
    case rel=>
     refine⟨i+1,10*n+(c - 48),by have:=HI.out;omega,by go_num,congrArg (Value.int .i64) (by omega),?_,?_,rfl⟩
     ·rw[vO.out,HST.out];rfl
     ·have:=HN.out
      rw[Nat.pow_succ];omega
  ·have his:i=s.size:=by omega
   have hres:xE s.data.toList 0=some n:=by
    rw[vO.out,List.drop_of_length_le (by rw[bS];omega)];rfl
   have aM:=kH hres;clear hres;subst his;go_wp2_with fail
   go_ret2
   exact⟨by rw[aM.out];rfl,rfl⟩
theorem Y8(x:ByteArray):aU x.data.toList=x:=rfl
theorem QM{t:aP}{c:UInt8}{r:aP}(h:t=48::c::r):eG t=eG (c::r):=by rw[h];rfl
theorem Fh{t:aP}(h:t.length<=1\/bz t 0≠48):eG t=t:=by
 match t,h with
 | [],_=>rfl
 | [x],_=>unfold eG;split<;>rename_i h1<;>simp_all
 | x::c::r,h=>
  unfold eG;split
  ·rename_i h1
   simp[bz]at h;cases h1
   exact absurd rfl h
  ·rfl
theorem KJ(s:ByteArray)(w:World)(hs:s.size<=4096):
 Calls Tryz.prog 231 #[.string s] w fun e w'=>e= .returned (.string (aU (eG s.data.toList)))/\w=w':=by
 go_enter Tryz.func231,Tryz.ntmps231
 go_wp2_with fail
 go_loopg [0] (s.size) (fun gk s0 wr=> ∃t:ByteArray,t.size=gk/\s0= .string t/\eG s.data.toList=eG t.data.toList/\t.size<=4096/\w=wr)
 case atStart=>exact⟨s,rfl,rfl,rfl,hs,rfl⟩
 case round=>
  obtain⟨t,ht,rfl,hd,hts,rfl⟩:=hrel;have HT:=kH ht;have HD:=kH hd;clear ht hd;by_cases h1:1<t.size
  ·have h1i:(1:Int)<t.size:=by omega
   have h0:0<t.size:=by omega
   obtain⟨c,hc⟩:∃c,(t[0]'h0).toNat=c:=⟨_,rfl⟩
   have hbz:bz t.data.toList 0=c:=by rw[<- pK t 0 h0,hc]
   by_cases h48:c=48
   ·have hlist:t.data.toList=48::(t.extract 1 t.size).data.toList:=by
     rw[Ci];have h2:=Ni t 0 h0;rw[List.drop_zero]at h2;rw[h2];unfold qN;have h3:(t[0]'h0)=48:=UInt8.toNat_inj.1 (by rw[hc,h48];rfl);rw[h3];simp;rw[List.take_of_length_le (by simp)]
    have hsz:(t.extract 1 t.size).size=t.size - 1:=by simp
    have hst:eG t.data.toList=eG (t.extract 1 t.size).data.toList:=by
     obtain⟨x,r,hxr⟩:∃x r,(t.extract 1 t.size).data.toList=x::r:=by
      cases hq:(t.extract 1 t.size).data.toList with
      | nil=>
       have:=congrArg List.length hq;rw[bS,hsz]at this;simp at this;omega
      | cons x r=>exact⟨x,r,rfl⟩
     rw[hxr];exact QM (by rw[hlist,hxr])
    have hci:((c:Int)==48)=true:=by simp;omega
    have HST:=kH hst;have su:=kH hsz;clear hlist hst hsz h48 hbz;go_wp2_with fail
    go_roundg (gk - 1)
    case measure=>have:=HT.out;omega
    case rel=>exact⟨t.extract 1 t.size,by rw[su.out,HT.out],rfl,HD.out.trans HST.out,by rw[su.out];omega,rfl⟩
   ·have hci:((c:Int)==48)=false:=by simp;omega
    have hst:eG s.data.toList=t.data.toList:=HD.out.trans (Fh (.inr (by rw[hbz];exact h48)));have HST:=kH hst;clear hst hbz h48;go_wp2_with fail
    go_ret
    exact⟨by rw[HST.out];rfl,rfl⟩
  ·have h1i:¬(1:Int)<t.size:=by omega
   have hst:eG s.data.toList=t.data.toList:=HD.out.trans (Fh (.inl (by rw[bS];omega)));have HST:=kH hst;clear hst;go_wp2_with fail
   go_ret
   exact⟨by rw[HST.out];rfl,rfl⟩
theorem bstep{W0 a b:World}(h:Below W0.heap.size W0 a)(hb:Below a.heap.size a b):Below W0.heap.size W0 b:=h.trans (hb.mono h.size)
theorem ext_mk(s:ByteArray)(a b:Nat):s.extract a b=aU (qN s.data.toList a b):=by rw[<- Ci,Y8]
theorem Ji(s:ByteArray)(k f a e:Nat)(w:World)(ha:a<=e)(he:e<=s.size):
 Calls Tryz.prog 133 #[.string s,.agg #[.int .i64 (k:Int),.int .i64 (f:Int),.int .i64 (a:Int),.int .i64 (e:Int)]] w fun x w'=>x= .returned (.string (aU (qN s.data.toList a e)))/\Below w.heap.size w w':=by
 have h1:(a:Int)<=(e:Int):=by omega
 have h2:(e:Int)<=s.size:=by omega
 have hx:=ext_mk s a e;rw[<- hx];clear hx;go_enter Tryz.func133,Tryz.ntmps133
 go_wp2_with fail
 go_ret
 exact⟨rfl,by(repeat (first|exact Below.refl _ _|assumption|refine Below.trans ?_ (Below.mono (by assumption) (by first|omega|(simp;done)|(simp;omega)))|refine Below.alloc ?_ (by first|omega|(simp;done)|(simp;omega)) _|refine Below.setCell ?_ (by first|omega|(simp;done)|(simp;omega)) _|refine Below.drew ?_|refine aY ?_ _))⟩
theorem PW.open{w:World}{E:PE}{v:PV}(h:PW w E v)(hE:E.Ok):∃b off,E.A=some ⟨b,off,none⟩/\b<w.heap.size/\w.cell? ⟨E.gp,0,none⟩=some (.string E.s)/\w.cell? ⟨E.gp,1,none⟩=some (.slice (some ⟨b,off,none⟩) E.n E.c)/\w.cell? ⟨E.gp,2,none⟩=some (.int .i64 (v.st.k:Int))/\w.cell? ⟨E.gp,3,none⟩=some (.int .i64 (v.st.last:Int))/\w.cell? ⟨E.gp,4,none⟩=some v.lv /\
 w.cell? ⟨b,off+v.st.k*4,none⟩=some (.int .i64 ((gq E.l v.st.k).kind:Int))/\w.cell? ⟨b,off+v.st.k*4+1,none⟩=some (.int .i64 ((gq E.l v.st.k).from_:Int)) /\
 w.cell? ⟨b,off+v.st.k*4+2,none⟩=some (.int .i64 ((gq E.l v.st.k).at_:Int))/\w.cell? ⟨b,off+v.st.k*4+3,none⟩=some (.int .i64 ((gq E.l v.st.k).end_:Int)):=by
 obtain⟨b,off,hA,hb,t0,t1,t2,t3⟩:=h.tok hE h.at_;have c1:=h.blk.cell 1;rw[hA]at c1;exact⟨b,off,hA,hb,h.blk.cell 0,c1,h.blk.cell 2,h.blk.cell 3,h.blk.cell 4,t0,t1,t2,t3⟩
theorem pz(E:PE)(hE:E.Ok)(v:PV)(w:World)(h:PW w E v):
 Calls Tryz.prog 65 #[.pointer (some ⟨E.gp,0,none⟩)] w fun e w'=>e= .returned (.int .i64 (bG E.l v.st:Int))/\Below w.heap.size w w':=by
 obtain⟨b,off,-,hb,-,c1,c2,-,-,t0,-,-,-⟩:=h.open hE;have hk:(v.st.k:Int)<E.n:=by have:=h.at_;omega
 have hk2:=h.at_;obtain⟨n,hn⟩:∃x,E.n=x:=⟨_,rfl⟩
 rw[hn]at c1 hk hk2;obtain⟨k,hkk⟩:∃x,v.st.k=x:=⟨_,rfl⟩
 unfold bG;rw[hkk]at c2 t0 hk hk2⊢;clear hn hkk;go_enter Tryz.func65,Tryz.ntmps65
 go_wp2_with fail
 go_quiet (fail)
 go_wp2_with fail
 go_ret
 exact⟨rfl,by(repeat (first|exact Below.refl _ _|assumption|refine Below.trans ?_ (Below.mono (by assumption) (by first|omega|(simp;done)|(simp;omega)))|refine Below.alloc ?_ (by first|omega|(simp;done)|(simp;omega)) _|refine Below.setCell ?_ (by first|omega|(simp;done)|(simp;omega)) _|refine Below.drew ?_|refine aY ?_ _))⟩
theorem CP(E:PE)(hE:E.Ok)(v:PV)(w:World)(h:PW w E v):
 Calls Tryz.prog 124 #[.pointer (some ⟨E.gp,0,none⟩)] w fun e w'=>e= .returned (.string (aU (bE E.bs E.l v.st.k)))/\Below w.heap.size w w':=by
 obtain⟨b,off,-,hb,c0,c1,c2,-,-,t0,t1,t2,t3⟩:=h.open hE;have hk:(v.st.k:Int)<E.n:=by have:=h.at_;omega
 have hk2:=h.at_;have hg:=hE.get v.st.k;unfold bE Ar PE.bs;obtain⟨n,hn⟩:∃x,E.n=x:=⟨_,rfl⟩
 rw[hn]at c1 hk hk2;obtain⟨k,hkk⟩:∃x,v.st.k=x:=⟨_,rfl⟩
 rw[hkk]at c2 t0 t1 t2 t3 hk hk2 hg⊢;obtain⟨tk,htk⟩:∃x,gq E.l k=x:=⟨_,rfl⟩
 rw[htk]at t0 t1 t2 t3 hg⊢;clear hn hkk htk;have hword:=fun w=>Ji E.s tk.kind tk.from_ tk.at_ tk.end_ w hg.1 hg.2.1
 have HW:=kH hword;clear hword;have hgl:=h.blk.lt;have nH:∀w':World,Below w.heap.size w w'->(fun w'=>w'.cell? ⟨E.gp,0,none⟩=some (.string E.s)/\w'.cell? ⟨E.gp,1,none⟩=some (.slice (some ⟨b,off,none⟩) n E.c)/\w'.cell? ⟨E.gp,2,none⟩=some (.int .i64 (k:Int))/\w'.cell? ⟨b,off+k*4,none⟩=some (.int .i64 (tk.kind:Int))/\w'.cell? ⟨b,off+k*4+1,none⟩=some (.int .i64 (tk.from_:Int))/\w'.cell? ⟨b,off+k*4+2,none⟩=some (.int .i64 (tk.at_:Int))/\w'.cell? ⟨b,off+k*4+3,none⟩=some (.int .i64 (tk.end_:Int))) w':=fun w' hb'=>⟨(hb'.cell (p:=⟨E.gp,_,none⟩) hgl).trans c0,(hb'.cell (p:=⟨E.gp,_,none⟩) hgl).trans c1,(hb'.cell (p:=⟨E.gp,_,none⟩) hgl).trans c2,(hb'.cell (p:=⟨b,_,none⟩) hb).trans t0,(hb'.cell (p:=⟨b,_,none⟩) hb).trans t1,(hb'.cell (p:=⟨b,_,none⟩) hb).trans t2,(hb'.cell (p:=⟨b,_,none⟩) hb).trans t3⟩
 have eY:=kH nH;have hBd:Below w.heap.size w w.drew:=(Below.refl _ _).drew;clear nH;go_enter Tryz.func124,Tryz.ntmps124
 go_wp2_with fail
 go_region_held3 (fun w'=>w'.cell? ⟨E.gp,0,none⟩=some (.string E.s)/\w'.cell? ⟨E.gp,1,none⟩=some (.slice (some ⟨b,off,none⟩) n E.c)/\w'.cell? ⟨E.gp,2,none⟩=some (.int .i64 (k:Int))/\w'.cell? ⟨b,off+k*4,none⟩=some (.int .i64 (tk.kind:Int))/\w'.cell? ⟨b,off+k*4+1,none⟩=some (.int .i64 (tk.from_:Int))/\w'.cell? ⟨b,off+k*4+2,none⟩=some (.int .i64 (tk.at_:Int))/\w'.cell? ⟨b,off+k*4+3,none⟩=some (.int .i64 (tk.end_:Int))) ((exact eY.out _ (by assumption))) ((go_at_call 133;refine(HW.out _).mono ?_;rintro e w1 ⟨rfl,hb1⟩;have hB1:=bstep (W0:=w) (by assumption) hb1))
 go_wp2_with fail
 go_ret
 exact⟨rfl,by assumption⟩
theorem VM(E:PE)(hE:E.Ok)(v:PV)(w:World)(h:PW w E v):
 Calls Tryz.prog 137 #[.pointer (some ⟨E.gp,0,none⟩)] w fun e w'=>e= .returned (.string (aU (nR E.bs E.l v.st)))/\Below w.heap.size w w':=by
 obtain⟨b,off,hA,hb,c0,c1,c2,-,-,-,-,-,-⟩:=h.open hE;have hk2:=h.at_;have ze:=hE.most;by_cases hlt:v.st.k+1<E.n
 ·obtain⟨b',off',hA',-,t0,t1,t2,t3⟩:=h.tok hE hlt
  rw[hA]at hA';cases hA'
  have hk:(v.st.k:Int)+1<E.n:=by omega
  have hg:=hE.get (v.st.k+1);unfold nR;rw[if_pos (by rw[hE.len];exact hlt)];unfold bE Ar PE.bs;obtain⟨n,hn⟩:∃x,E.n=x:=⟨_,rfl⟩
  rw[hn]at c1 hk hk2 hlt ze;obtain⟨k,hkk⟩:∃x,v.st.k=x:=⟨_,rfl⟩
  rw[hkk]at c2 t0 t1 t2 t3 hk hk2 hg hlt⊢;obtain⟨tk,htk⟩:∃x,gq E.l (k+1)=x:=⟨_,rfl⟩
  rw[htk]at t0 t1 t2 t3 hg⊢;clear hn hkk htk;have hword:=fun w=>Ji E.s tk.kind tk.from_ tk.at_ tk.end_ w hg.1 hg.2.1
  have HW:=kH hword;clear hword;have hgl:=h.blk.lt;have nH:∀w':World,Below w.heap.size w w'->(fun w'=>w'.cell? ⟨E.gp,0,none⟩=some (.string E.s)/\w'.cell? ⟨E.gp,1,none⟩=some (.slice (some ⟨b,off,none⟩) n E.c)/\w'.cell? ⟨E.gp,2,none⟩=some (.int .i64 (k:Int))/\w'.cell? ⟨b,off+(k+1)*4,none⟩=some (.int .i64 (tk.kind:Int))/\w'.cell? ⟨b,off+(k+1)*4+1,none⟩=some (.int .i64 (tk.from_:Int))/\w'.cell? ⟨b,off+(k+1)*4+2,none⟩=some (.int .i64 (tk.at_:Int))/\w'.cell? ⟨b,off+(k+1)*4+3,none⟩=some (.int .i64 (tk.end_:Int))) w':=fun w' hb'=>⟨(hb'.cell (p:=⟨E.gp,_,none⟩) hgl).trans c0,(hb'.cell (p:=⟨E.gp,_,none⟩) hgl).trans c1,(hb'.cell (p:=⟨E.gp,_,none⟩) hgl).trans c2,(hb'.cell (p:=⟨b,_,none⟩) hb).trans t0,(hb'.cell (p:=⟨b,_,none⟩) hb).trans t1,(hb'.cell (p:=⟨b,_,none⟩) hb).trans t2,(hb'.cell (p:=⟨b,_,none⟩) hb).trans t3⟩
  have eY:=kH nH;have hBn:∀m,Below w.heap.size w ((w.drewN m).drew):=fun m=>(aY (Below.refl _ _) m).drew
  have Be:=kH hBn;clear hBn;clear nH;go_enter Tryz.func137,Tryz.ntmps137
  go_wp2_with fail
  go_quiet (fail)
  go_wp2_with fail
  have hwr:IntKind.i64.wrap ((k:Int)+1)=(k:Int)+1:=IntWalk.i64_in _ (by omega);have hnn:(0:Int)<=(k:Int)+1:=by omega
  have htn:((k:Int)+1).toNat=k+1:=by omega
  go_region_held3 (fun w'=>w'.cell? ⟨E.gp,0,none⟩=some (.string E.s)/\w'.cell? ⟨E.gp,1,none⟩=some (.slice (some ⟨b,off,none⟩) n E.c)/\w'.cell? ⟨E.gp,2,none⟩=some (.int .i64 (k:Int))/\w'.cell? ⟨b,off+(k+1)*4,none⟩=some (.int .i64 (tk.kind:Int))/\w'.cell? ⟨b,off+(k+1)*4+1,none⟩=some (.int .i64 (tk.from_:Int))/\w'.cell? ⟨b,off+(k+1)*4+2,none⟩=some (.int .i64 (tk.at_:Int))/\w'.cell? ⟨b,off+(k+1)*4+3,none⟩=some (.int .i64 (tk.end_:Int))) ((first|exact eY.out _ (by assumption)|exact eY.out _ (Be.out _))) ((go_at_call 133;refine(HW.out _).mono ?_;rintro e w1 ⟨rfl,hb1⟩;have hB1:=bstep (W0:=w) (by first|assumption|exact Be.out _) hb1))
  go_wp2_with fail
  go_ret
  exact⟨rfl,by assumption⟩
 ·have hk:¬(v.st.k:Int)+1<E.n:=by omega
  unfold nR;rw[if_neg (by rw[hE.len];exact hlt)];obtain⟨n,hn⟩:∃x,E.n=x:=⟨_,rfl⟩
  rw[hn]at c1 hk hk2 hlt ze;obtain⟨k,hkk⟩:∃x,v.st.k=x:=⟨_,rfl⟩
  rw[hkk]at c2 hk hk2 hlt;clear hn hkk;have hwr:IntKind.i64.wrap ((k:Int)+1)=(k:Int)+1:=IntWalk.i64_in _ (by omega);have HX:Hid (¬k+1<n):=kH hlt;clear hlt;go_enter Tryz.func137,Tryz.ntmps137
  go_wp2_with fail
  go_quiet (fail)
  go_wp2_with fail
  go_ret
  exact⟨rfl,by(repeat (first|exact Below.refl _ _|assumption|refine Below.trans ?_ (Below.mono (by assumption) (by first|omega|(simp;done)|(simp;omega)))|refine Below.alloc ?_ (by first|omega|(simp;done)|(simp;omega)) _|refine Below.setCell ?_ (by first|omega|(simp;done)|(simp;omega)) _|refine Below.drew ?_|refine aY ?_ _))⟩
theorem yj(E:PE)(hE:E.Ok)(v:PV)(x:aP)(w:World)(h:PW w E v):
 Calls Tryz.prog 66 #[.pointer (some ⟨E.gp,0,none⟩),.string (aU x)] w fun e w'=>e= .returned (.bool (bB E.bs E.l v.st x))/\Below w.heap.size w w':=by
 have hkd:=pz E hE v w h;have hnx:=fun w' (h':PW w' E v)=>CP E hE v w' h'
 have hkl:=(hE.get v.st.k).2.2;unfold bB bG at*;obtain⟨k,hk⟩:∃x,(gq E.l v.st.k).kind=x:=⟨_,rfl⟩
 rw[hk]at hkd hkl⊢;obtain⟨y,hy⟩:∃y,bE E.bs E.l v.st.k=y:=⟨_,rfl⟩
 rw[hy]at hnx⊢;have rq:=kH hkd;have bD:=kH hnx;clear hk hy hkd hnx;by_cases h5:k=5
 ·have hki:((k:Int) !=5)=false:=by simp;omega
  have hres:(decide (k≠5)&&decide (y=x))=false:=by simp[h5]
  rw[hres];clear hres h5;go_enter Tryz.func66,Tryz.ntmps66
  go_wp2_with fail
  refine rq.out.mono ?_;rintro e w1 ⟨rfl,hb1⟩;go_wp2_with fail
  go_ret
  exact⟨rfl,hb1⟩
 ·have hki:((k:Int) !=5)=true:=by simp;omega
  have hres:(decide (k≠5)&&decide (y=x))=decide (y=x):=by simp[h5]
  rw[hres];clear hres h5;go_enter Tryz.func66,Tryz.ntmps66
  go_wp2_with fail
  refine rq.out.mono ?_;rintro e w1 ⟨rfl,hb1⟩;go_wp2_with fail
  refine(bD.out w1 (h.below hb1)).mono ?_;rintro e w2 ⟨rfl,hb2⟩;go_wp2_with fail
  go_ret
  refine⟨bH ?_,hb1.trans (hb2.mono hb1.size)⟩;rw[Bool.eq_iff_iff];simp[aU]
theorem Y1{E:PE}(hE:E.Ok){v:PV}{w:World}(h:PW w E v)(h5:bG E.l v.st≠5):
 PW ((w.setCell ⟨E.gp,3,none⟩ (.int .i64 ((gq E.l v.st.k).end_:Int))).setCell ⟨E.gp,2,none⟩ (.int .i64 ((v.st.k:Int)+1))).drew E ⟨ay E.l v.st,v.lv⟩ /\
 PM E w v ((w.setCell ⟨E.gp,3,none⟩ (.int .i64 ((gq E.l v.st.k).end_:Int))).setCell ⟨E.gp,2,none⟩ (.int .i64 ((v.st.k:Int)+1))).drew ⟨ay E.l v.st,v.lv⟩:=by
 have hkl:v.st.k<E.l.length:=by rw[hE.len];exact h.at_
 have hlt:=hE.ends _ hkl h5;have hn1:v.lv.ownBlock≠some E.gp:=h.own.eu h.blk (by decide);have hn2:(Value.slice E.A E.n E.c).ownBlock≠some E.gp:=h.toks.eu h.blk (by decide);refine⟨⟨?_,(h.own.setCell hn1 _).setCell hn1 _,(h.toks.setCell hn2 _).setCell hn2 _,?_,h.good.read (hE.mono _ hlt),?_⟩,⟨((az.refl (fun g=>g=E.gp\/v.lv.ownBlock=some g) w).setCell (.inl (.inl rfl)) _).setCell (.inl (.inl rfl)) _ |>.drew,.inl rfl⟩⟩
 ·have:=((h.blk.fU 3 (.int .i64 ((gq E.l v.st.k).end_:Int))).fU 2 (.int .i64 ((v.st.k:Int)+1))).drew
  simpa [ay] using this
 ·show v.st.k+1<E.n
  rw[<- hE.len];exact hlt
 ·have:=(hE.get v.st.k).2.1
  have:=hE.size;show(gq E.l v.st.k).end_<=4096;omega
theorem qG(E:PE)(hE:E.Ok)(v:PV)(w:World)(h:PW w E v)(h5:bG E.l v.st≠5):
 Calls Tryz.prog 70 #[.pointer (some ⟨E.gp,0,none⟩)] w fun e w'=>e= .returned (.string (aU (bE E.bs E.l v.st.k)))/\PW w' E ⟨ay E.l v.st,v.lv⟩/\PM E w v w' ⟨ay E.l v.st,v.lv⟩:=by
 have hnx:=CP E hE v w h;have bD:=kH hnx;have H:=kH h;clear hnx;go_enter Tryz.func70,Tryz.ntmps70
 go_wp2_with fail
 refine bD.out.mono ?_;rintro e w1 ⟨rfl,hb1⟩;have h1:=H.out.below hb1;have H1:=kH h1;obtain⟨b,off,-,hb,-,c1,c2,c3,-,-,-,-,t3⟩:=h1.open hE;have hk2:=h1.at_;have ze:=hE.most;have hk:(v.st.k:Int)<E.n:=by omega
 have hf2:=h1.blk.frozen 2;have hf3:=h1.blk.frozen 3;have hwr:IntKind.i64.wrap ((v.st.k:Int)+1)=(v.st.k:Int)+1:=IntWalk.i64_in _ (by omega);obtain⟨n,hn⟩:∃x,E.n=x:=⟨_,rfl⟩
 rw[hn]at c1 hk hk2;obtain⟨k,hkk⟩:∃x,v.st.k=x:=⟨_,rfl⟩
 rw[hkk]at c2 t3 hk hk2 hwr;obtain⟨te,hte⟩:∃x,(gq E.l k).end_=x:=⟨_,rfl⟩
 rw[hte]at t3;have HKK:=kH hkk;have HTE:=kH hte;clear hn hkk hte h1 h;go_wp2_with fail
 go_region
 go_wp2_with fail
 go_ret
 have hz:=Y1 hE H1.out h5;rw[HKK.out,HTE.out]at hz;exact⟨rfl,hz.1,(PM.of_below hb1).trans hz.2⟩
end Go.Proofs.YtoepemlnlpamlaaGreat
namespace Go.Proofs.YtoepemlnlpamlaaGreat
section
variable {P:Program}{ops:Array Oper}{Q:Exit->Act->World->Prop}{md:Region.Mode}{S:World->Prop}{ex:List Nat}
def xY(P:Program)(md:Region.Mode)(ops:Array Oper)(Q:Exit->Act->World->Prop)(S:World->Prop)(ex:List Nat):Nat->Array Bool->Act->World->Prop
 | 0,listed,a,w=>Region.ready md ops listed=[]/\Q .normal a w
 | fuel+1,listed,a,w=>
  (Region.ready md ops listed=[]->Q .normal a w) /\
  ∀i∈Region.ready md ops listed,wpOp P ops Q i (fun a' w'=>(i ∉ ex->S w')/\xY P md ops Q S ex fuel (listed.setIfInBounds i true) a' w') a w
theorem vS:∀(fuel:Nat) (listed:Array Bool) (a:Act) (w:World),xY P md ops Q S ex fuel listed a w->wpAny P md ops Q fuel listed a w
 | 0,_,_,_,h=>h
 | fuel+1,_,_,_,h=>⟨h.1,fun i hi=>wpOp_mono (fun a' w' h'=>vS fuel _ a' w' h'.2) (h.2 i hi)⟩
theorem vT{i:Nat}{oi:Oper}{v:Value}(hi:ops[i]? =some oi)(hsel:∀(j:Nat) (o:Oper) cs b,ops[j]? =some o->o.op ≠ .select cs b)
 (hex:∀j∈ex,Region.waitsFor md ops j i=true)
 (hQ:∀c a w,Q (.panic c) (a.put oi.dst v) w->Q (.panic c) a w):
 ∀(fuel:Nat) (listed:Array Bool) (a:Act) (w:World),
  (∀j oj,ops[j]? =some oj->j≠i->listed.getD j true=false->(∀e∈oj.after,Region.binds md e=true->e.on≠i)->oi.apart ops oj=true) ->
  i∈Region.ready md ops listed->YieldsIf P ops S oi v a->S w ->
  xY P md ops Q S ex fuel (listed.setIfInBounds i true) (a.put oi.dst v) w->xY P md ops Q S ex (fuel+1) listed a w:=by
 intro fuel
 induction fuel with
 | zero=>
  intro listed a w _ hr hy hS H;refine⟨fun h=>(by rw[h]at hr;cases hr),fun j hj=>?_⟩;by_cases hji:j=i
  ·subst hji;exact hy.wpOp hi hS ⟨fun _=>hS,H⟩
  ·have:=ready_mono hj hji
   rw[H.1]at this
   cases this
 | succ fuel ih=>
  intro listed a w hfree hr hy hS H;refine⟨fun h=>(by rw[h]at hr;cases hr),fun j hj=>?_⟩;by_cases hji:j=i
  ·subst hji;exact hy.wpOp hi hS ⟨fun _=>hS,H⟩
  ·have h1:=H.2 j (ready_mono hj hji)
   obtain⟨hjun,oj,hoj,hall⟩:=mem_ready.1 hj
   have hnot:∀e∈oj.after,Region.binds md e=true->e.on≠i:=fun e he hb heq=>by
    have h1:=hall e he hb;have h0:=(mem_ready.1 hr).1;rw[heq]at h1;rcases Nat.lt_or_ge i listed.size with h'|h'
    ·simp[h']at h0 h1;rw[h0]at h1;cases h1
    ·simp[Array.getElem?_eq_none h']at h1
   have hjex:j ∉ ex:=fun hm=>by
    obtain⟨oj',hj',e,he,hb,hon⟩:=Region.waitsFor_spec (hex j hm);rw[hoj]at hj';cases hj'
    exact hnot e he hb hon
   have h2:=wpOp_putIf hoj (hfree j oj hoj hji hjun hnot) (fun cs b=>hsel i oi cs b hi) (fun cs b=>hsel j oj cs b hoj) hQ hy h1
   have hfree':∀k ok,ops[k]? =some ok->k≠i->(listed.setIfInBounds j true).getD k true=false ->
    (∀e∈ok.after,Region.binds md e=true->e.on≠i)->oi.apart ops ok=true:=fun k ok hk hki hun hno=>by
    refine hfree k ok hk hki ?_ hno;by_cases hjk:j=k
    ·subst hjk;exact hjun
    ·rw[getD_set_ne true hjk]at hun;exact hun
   refine wpOp_mono (fun a' w' h3=>⟨h3.2.1,ih (listed.setIfInBounds j true) a' w' hfree' (ready_mono hr (Ne.symm hji)) h3.1 (h3.2.1 hjex) ?_⟩) h2;rw[Array.setIfInBounds_comm _ _ hji];exact h3.2.2
def vQ(P:Program)(ops:Array Oper)(Q:Exit->Act->World->Prop)(S:World->Prop)(ex:List Nat):Nat->List Bool->List Oper->Act->World->Prop
 | _,_,[],a,w=>Q .normal a w
 | _,[],_::_,_,_=>False
 | k,true::ss,o::rest,a,w=> ∃v,YieldsIf P ops S o v a/\S w/\vQ P ops Q S ex (k+1) ss rest (a.put o.dst v) w
 | k,false::ss,o::rest,a,w=>o.guard=none/\o.wp P a w (fun a' w'=>(ex.contains k=false->S w')/\vQ P ops Q S ex (k+1) ss rest a' w') Q
def nZ(md:Region.Mode)(ops:Array Oper)(ex:List Nat):Nat->List Bool->Array Bool->Bool
 | _,[],listed=>(Region.ready md ops listed).isEmpty
 | k,true::ss,listed=>Region.free md ops listed k&&(Region.ready md ops listed).contains k&&ex.all (fun j=>Region.waitsFor md ops j k)&&nZ md ops ex (k+1) ss (listed.setIfInBounds k true)
 | k,false::ss,listed=>(Region.ready md ops listed==[k])&&nZ md ops ex (k+1) ss (listed.setIfInBounds k true)
theorem N9(hs:Region.noSelect ops=true)(hQ:∀c a b w,Q (.panic c) a w->Q (.panic c) b w):∀(l:List Oper) (ss:List Bool) (k:Nat) (listed:Array Bool) (a:Act) (w:World),(∀j,l[j]? =ops[k+j]?)->ss.length=l.length ->
 nZ md ops ex k ss listed=true->vQ P ops Q S ex k ss l a w->xY P md ops Q S ex l.length listed a w:=by
 intro l
 induction l with
 | nil=>
  intro ss k listed a w hl hss hB h;have:ss=[]:=List.eq_nil_of_length_eq_zero hss;subst this;exact⟨by simpa [nZ] using hB,by simpa [vQ] using h⟩
 | cons o rest ih=>
  intro ss k listed a w hl hss hB h;have hok:ops[k]? =some o:=by have:=hl 0;simpa using this.symm
  have hl':∀j,rest[j]? =ops[k+1+j]? :=fun j=>by
   have:=hl (j+1);rw[aaL]at this;rw[this,Nat.add_assoc,Nat.add_comm 1 j]
  cases ss with
  | nil=>simp at hss
  | cons s ss=>
   have PD:ss.length=rest.length:=by simpa using hss
   cases s with
   | true=>
    simp only[nZ,aaF]at hB;obtain⟨⟨⟨h1,h2⟩,h3⟩,h4⟩:=hB;obtain⟨v,hy,hS,h5⟩:=h;refine vT hok (Region.noSelect_spec hs) (fun j hj=>?_) (fun c a w hq=>hQ c _ _ w hq) rest.length listed a w (Region.free_spec hok h1) (by simpa using h2) hy hS (ih ss (k+1) _ _ w hl' PD h4 h5);exact List.all_eq_true.1 h3 j hj
   | false=>
    simp only[nZ,aaF,beq_iff_eq]at hB;obtain⟨h1,h2⟩:=hB;obtain⟨hg,h5⟩:=h;refine⟨fun h0=>(by rw[h0]at h1;cases h1),fun i hi=>?_⟩;rw[h1]at hi;simp at hi;subst hi;have hw:Region.wanted o (yielded ops a.tmps)=true:=by simp[Region.wanted,hg]
    unfold wpOp;simp only[hok,hw,if_true];refine .inl (Oper.wp_mono (fun a' w' h6=>⟨fun hn=>h6.1 (by simpa using hn),ih ss (i+1) _ a' w' hl' PD h2 h6.2⟩) h5)
theorem fT{id:Nat}{a:Act}{w:World}{l:List Oper}(S:World->Prop)(ex:List Nat)(ss:List Bool)(hm:P.follows .mixedOrders=true)(hs:Region.noSelect l.toArray=true)
 (hl:ss.length=l.length) (hB:nZ .any l.toArray ex 0 ss (Array.replicate l.length false)=true) (h:vQ P l.toArray (NoPanic Q) S ex 0 ss l a w.drew):(Code.region id l.toArray true).wp P Q a w:=by
 refine wp_region_noPanic (wp_region_any hm (vS (S:=S) (ex:=ex) _ _ _ _ ?_));have:=N9 (P:=P) (S:=S) (md:=.any) hs (Q:=NoPanic Q) (fun c a b w hq=>(hq:False).elim) l ss 0 (Array.replicate l.length false) a w.drew (fun j=>by simp) hl hB h;simpa using this
theorem ll{k:Nat}{ss:List Bool}{a:Act}{w:World}(h:Q .normal a w):vQ P ops (NoPanic Q) S ex k ss [] a w:=by
 cases ss<;>exact h
theorem jI{k:Nat}{ss:List Bool}{o:Oper}{rest:List Oper}{a:Act}{w:World}{v:Value}(hg:o.guard=none)(hS:S w)(hy:∀w',S w'->(execOp a.eval o).run P w'= .ok (.value v) w')
 (h:vQ P ops Q S ex (k+1) ss rest (a.put o.dst v) w):vQ P ops Q S ex k (true::ss) (o::rest) a w:=
 ⟨v,.inl ⟨by simp[Region.wanted,hg],hy⟩,hS,h⟩
theorem kD{k:Nat}{ss:List Bool}{o:Oper}{rest:List Oper}{a:Act}{w w':World}{v:Value}(hg:o.guard=none)(hr:(execOp a.eval o).run P w= .ok (.value v) w')(hS:ex.contains k=false->S w')
 (h:vQ P ops Q S ex (k+1) ss rest (a.put o.dst v) w'):vQ P ops Q S ex k (false::ss) (o::rest) a w:=
 ⟨hg,by unfold Oper.wp;rw[hr];exact⟨hS,h⟩⟩
theorem kG{k:Nat}{ss:List Bool}{o:Oper}{rest:List Oper}{a:Act}{w w':World}(hg:o.guard=none)(hr:(execOp a.eval o).run P w= .ok .skip w')(hS:ex.contains k=false->S w')
 (h:vQ P ops Q S ex (k+1) ss rest (a.put o.dst undef) w'):vQ P ops Q S ex k (false::ss) (o::rest) a w:=
 ⟨hg,by unfold Oper.wp;rw[hr];exact⟨hS,h⟩⟩
theorem uW{k:Nat}{ss:List Bool}{o:Oper}{rest:List Oper}{a:Act}{w:World}(hg:o.guard=none)
 (h:o.wp P a w (fun a' w'=>(ex.contains k=false->S w')/\vQ P ops Q S ex (k+1) ss rest a' w') Q):vQ P ops Q S ex k (false::ss) (o::rest) a w:=⟨hg,h⟩
end
open Go.RowKit
theorem F9:(Tryz.prog.info? 78).map (fun i=>(i.zero,i.size,i.bytes))=some (some (.agg #[.int .i64 0,.int .i64 0,.int .i64 0,.string ⟨#[]⟩,.slice none 0 0]),5,64):=by kernel_rfl
theorem jB(w:World)(g:Nat)(a b c d e:Value)(h0:w.cell? ⟨g,0,none⟩=some a)(h1:w.cell? ⟨g,1,none⟩=some b)(h2:w.cell? ⟨g,2,none⟩=some c)(h3:w.cell? ⟨g,3,none⟩=some d)(h4:w.cell? ⟨g,4,none⟩=some e):
 ∀j v,[a,b,c,d,e][j]? =some v->w.cell? ((⟨g,0,none⟩:Addr).add j)=some v:=by
 intro j v hj
 match j,hj with
 | 0,hj=>simp at hj;subst hj;exact h0
 | 1,hj=>simp at hj;subst hj;exact h1
 | 2,hj=>simp at hj;subst hj;exact h2
 | 3,hj=>simp at hj;subst hj;exact h3
 | 4,hj=>simp at hj;subst hj;exact h4
 | j+5,hj=>simp at hj
theorem rM(E:PE)(hE:E.Ok)(v:PV)(c:Int)(x:aP)(w:World)(h:PW w E v):
 Calls Tryz.prog 69 #[.pointer (some ⟨E.gp,0,none⟩),.int .i64 c,.string (aU x)] w fun e w'=>(∃u,e= .returned u)/\∃v',v'.st=gZ E.l v.st c x/\PW w' E v'/\PM E w v w' v':=by
 obtain⟨i0,hi0,hz0,hz1,hz2⟩:=info_parts F9;have H:=kH h;obtain⟨b,off,-,hb,c0,c1,c2,-,c4,t0,t1,t2,t3⟩:=h.open hE;have hk:(v.st.k:Int)<E.n:=by have:=h.at_;omega
 have hk2:=h.at_;have hgl:=h.blk.lt;have hlen:=h.good.len (m:=4096) (by have:=hE.get v.st.k;have:=hE.size;omega);obtain⟨n,hn⟩:∃x,E.n=x:=⟨_,rfl⟩
 rw[hn]at c1 hk hk2;obtain⟨k,hkk⟩:∃x,v.st.k=x:=⟨_,rfl⟩
 rw[hkk]at c2 t0 t1 t2 t3 hk hk2;obtain⟨tk,htk⟩:∃x,gq E.l k=x:=⟨_,rfl⟩
 rw[htk]at t0 t1 t2 t3;obtain⟨A4,k4,hv4,-,-⟩:=h.own.shape;rw[hv4]at c4;obtain⟨nd,hnd⟩:∃x,v.st.ds.length=x:=⟨_,rfl⟩
 rw[hnd]at c4 hlen;have nH:∀w':World,Below w.heap.size w w'->w'.cell? ⟨E.gp,1,none⟩=some (.slice (some ⟨b,off,none⟩) n E.c)/\w'.cell? ⟨E.gp,2,none⟩=some (.int .i64 (k:Int))/\w'.cell? ⟨b,off+k*4,none⟩=some (.int .i64 (tk.kind:Int))/\w'.cell? ⟨b,off+k*4+1,none⟩=some (.int .i64 (tk.from_:Int))/\w'.cell? ⟨b,off+k*4+2,none⟩=some (.int .i64 (tk.at_:Int))/\w'.cell? ⟨b,off+k*4+3,none⟩=some (.int .i64 (tk.end_:Int)):=fun w' hb'=>⟨(hb'.cell (p:=⟨E.gp,_,none⟩) hgl).trans c1,(hb'.cell (p:=⟨E.gp,_,none⟩) hgl).trans c2,(hb'.cell (p:=⟨b,_,none⟩) hb).trans t0,(hb'.cell (p:=⟨b,_,none⟩) hb).trans t1,(hb'.cell (p:=⟨b,_,none⟩) hb).trans t2,(hb'.cell (p:=⟨b,_,none⟩) hb).trans t3⟩
 have eY:=kH nH;have hBd:Below w.heap.size w w.drew:=(Below.refl _ _).drew;have HKK:=kH hkk;have AZ:=kH htk;have iU:=kH hv4;have rF:=kH hnd;clear nH hn hkk htk h hv4 hnd;go_enter Tryz.func69,Tryz.ntmps69
 go_wp2_with fail
 go_region_held3 (fun w'=>w'.cell? ⟨E.gp,1,none⟩=some (.slice (some ⟨b,off,none⟩) n E.c)/\w'.cell? ⟨E.gp,2,none⟩=some (.int .i64 (k:Int))/\w'.cell? ⟨b,off+k*4,none⟩=some (.int .i64 (tk.kind:Int))/\w'.cell? ⟨b,off+k*4+1,none⟩=some (.int .i64 (tk.from_:Int))/\w'.cell? ⟨b,off+k*4+2,none⟩=some (.int .i64 (tk.at_:Int))/\w'.cell? ⟨b,off+k*4+3,none⟩=some (.int .i64 (tk.end_:Int))) ((refine eY.out _ ?_;(repeat (first|exact Below.refl _ _|assumption|refine Below.trans ?_ (Below.mono (by assumption) (by first|omega|(simp;done)|(simp;omega)))|refine Below.alloc ?_ (by first|omega|(simp;done)|(simp;omega)) _|refine Below.setCell ?_ (by first|omega|(simp;done)|(simp;omega)) _|refine Below.drew ?_|refine aY ?_ _)))) (fail)
 generalize hW1:(w.alloc (.cells #[.int .i64 (tk.kind:Int),.int .i64 (tk.from_:Int),.int .i64 (tk.at_:Int),.int .i64 (tk.end_:Int)] 186)).drew=W1
 have hb1:Below w.heap.size w W1:=by rw[<- hW1];(repeat (first|exact Below.refl _ _|assumption|refine Below.trans ?_ (Below.mono (by assumption) (by first|omega|(simp;done)|(simp;omega)))|refine Below.alloc ?_ (by first|omega|(simp;done)|(simp;omega)) _|refine Below.setCell ?_ (by first|omega|(simp;done)|(simp;omega)) _|refine Below.drew ?_|refine aY ?_ _))
 have hT1:ai W1 w.heap.size 186 #[.int .i64 (tk.kind:Int),.int .i64 (tk.from_:Int),.int .i64 (tk.at_:Int),.int .i64 (tk.end_:Int)]:=by rw[<- hW1];exact(ai.new w _ _).drew
 have hs1:W1.heap.size=w.heap.size+1:=by rw[<- hW1];simp
 have H1:=kH (H.out.below hb1);have hx2:=hT1.cell 2;have hx3:=hT1.cell 3;have hgl1:E.gp<W1.heap.size:=by omega
 have hc4:W1.cell? ⟨E.gp,4,none⟩=some (.slice A4 nd k4):=(hb1.cell (p:=⟨E.gp,4,none⟩) hgl).trans c4;have nV:=kH hs1;clear hW1 eY hs1;obtain⟨fl,hfl⟩:∃fl,(match v.st.ds.getLast? with|some d=>decide (d.at_=(tk.at_:Int))|none=>false)=fl:=⟨_,rfl⟩
 have Lr:=kH hfl;clear hfl;go_upto_region 2 with fail
 go_cut [38] (fun s38 wx=>s38= .bool fl/\Below W1.heap.size W1 wx)
 case first=>
  cases nd with
  | zero=>
   have hg1:decide ((0:Int)<((0:Nat):Int))=false:=by simp
   have hds:v.st.ds=[]:=List.length_eq_zero_iff.1 rF.out;have hf:=Lr.out;rw[hds]at hf;have hf2:fl=false:=hf.symm;subst hf2;clear hds hf Lr;go_wp2_with fail
   go_quiet (fail)
   go_wp2_with fail
   go_meet
   exact⟨rfl,by(repeat (first|exact Below.refl _ _|assumption|refine Below.trans ?_ (Below.mono (by assumption) (by first|omega|(simp;done)|(simp;omega)))|refine Below.alloc ?_ (by first|omega|(simp;done)|(simp;omega)) _|refine Below.setCell ?_ (by first|omega|(simp;done)|(simp;omega)) _|refine Below.drew ?_|refine aY ?_ _))⟩
  | succ m=>
   obtain⟨d,hd⟩:∃d,v.st.ds.getLast? =some d:=by
    cases hq:v.st.ds.getLast? with
    | none=>
     rw[List.getLast?_eq_none_iff]at hq;have:=rF.out;rw[hq]at this;simp at this
    | some d=>exact⟨d,rfl⟩
   have ET:v.st.ds[m]? =some d:=by
    rw[List.getLast?_eq_getElem?,rF.out]at hd;simpa using hd
   have hr:=H1.out.own;rw[iU.out,rF.out]at hr;obtain⟨lb,loff,hA4,hlb,hlc⟩:=hr.rowAt (cells:=bR) (l:=v.st.ds) rfl rfl (by intro c _;rfl) rF.out m d ET;subst hA4;have hy1:W1.cell? ⟨lb,loff+m*5+1,none⟩=some (.int .i64 d.at_):=hlc 1 _ rfl;have hm1:decide ((0:Int)<(m:Int)+1)=true:=decide_eq_true (by omega);have hf:=Lr.out;rw[hd]at hf;have hf2:(d.at_==(tk.at_:Int))=fl:=by rw[<- hf,Bool.eq_iff_iff];simp
   have hmw:IntKind.i64.wrap ((m:Int)+1 - 1)=(m:Int):=by
    have:(m:Int)+1 - 1=(m:Int):=by omega
    rw[this];exact IntWalk.i64_in _ (by omega)
   clear hd ET hr hlc hf Lr;go_wp2_with fail
   go_quiet (fail)
   go_wp2_with fail
   go_meet
   exact⟨rfl,by(repeat (first|exact Below.refl _ _|assumption|refine Below.trans ?_ (Below.mono (by assumption) (by first|omega|(simp;done)|(simp;omega)))|refine Below.alloc ?_ (by first|omega|(simp;done)|(simp;omega)) _|refine Below.setCell ?_ (by first|omega|(simp;done)|(simp;omega)) _|refine Below.drew ?_|refine aY ?_ _))⟩
 case rest=>
  obtain⟨rfl,hbq⟩:=hcut;obtain⟨W2,rfl⟩:∃W2:World,W2=wc:=⟨_,rfl⟩
  have H2:=kH (H1.out.below hbq);have hz2q:=hbq.size;have gX:=hT1.below hbq hT1.lt;have hx2:=gX.cell 2;have hx3:=gX.cell 3;have hc4:W2.cell? ⟨E.gp,4,none⟩=some (.slice A4 nd k4):=H2.out.blk.cell 4 |>.trans (by rw[iU.out,rF.out];rfl)
  have hbw2:Below w.heap.size w W2:=hb1.trans (hbq.mono hb1.size);have BH:=kH hbw2;clear hb1 hbq hT1 hbw2;cases fl
  ·have hlv:=H2.out.own
   rw[iU.out,rF.out]at hlv;have HLV:=kH hlv;have hgs:=nV.out;have hgl2:E.gp<W2.heap.size:=by omega
   have hgw2:w.heap.size<W2.heap.size:=by omega
   have hne:(Value.slice A4 nd k4).ownBlock≠some E.gp:=HLV.out.eu H2.out.blk (by decide);have hne2:(Value.slice A4 nd k4).ownBlock≠some w.heap.size:=HLV.out.eu gX (by decide);have hlo:=hE.low;have hfz:=H2.out.blk.frozen 4;have jb:=kH hne;have BG:=kH hne2;clear hlv hne hne2;go_wp2_with fail
   refine fT (fun w'=>w'.cell? ⟨E.gp,4,none⟩=some (.slice A4 nd k4)/\w'.cell? ⟨w.heap.size,2,none⟩=some (.int .i64 (tk.at_:Int))/\w'.cell? ⟨w.heap.size,3,none⟩=some (.int .i64 (tk.end_:Int))) [16] [true,true,true,true,true,true,true,true,true,true,true,true,false,false,false,false,false] (by kernel_rfl) (by kernel_rfl) rfl (by kernel_rfl) ?_;have hS0:W2.drew.cell? ⟨E.gp,4,none⟩=some (.slice A4 nd k4)/\W2.drew.cell? ⟨w.heap.size,2,none⟩=some (.int .i64 (tk.at_:Int))/\W2.drew.cell? ⟨w.heap.size,3,none⟩=some (.int .i64 (tk.end_:Int)):=⟨hc4,hx2,hx3⟩
   iterate 12(refine jI rfl hS0 (by intro w' hSw;obtain⟨hs1,hs2,hs3⟩:=hSw;go_simp;rfl) ?_;simp only[Act.put,sA,sZ,sC])
   refine kD (w':=W2.drew.alloc (.cells #[.int .i64 c,.int .i64 (tk.at_:Int),.int .i64 (tk.end_:Int),.string (aU x),.slice none 0 0] 78)) rfl (by go_simp;rfl) ?_ ?_
   ·exact fun _=>⟨by go_simp,by go_simp,by go_simp⟩
   simp only[Act.put,sA,sZ,sC];refine uW rfl (jY _ (.tmp 43) (.tmp 51) _ rfl E.lo 78 i0 _ 5 64 Tryz.underlying31 hi0 hz0 hz1 hz2 rfl (.slice A4 nd k4) nd (v.st.ds.flatMap bR) rfl (HLV.out.drew.alloc _) ⟨W2.heap.size,0,none⟩ 1 1 (bR ⟨c,tk.at_,tk.end_,aU x⟩) rfl rfl (jB _ _ _ _ _ _ _ (by go_simp) (by go_simp) (by go_simp) (by go_simp) (by go_simp)) (by simp[bR,Value.oneCell']) (by simp only[maxLen];omega) (by omega) (by simp;omega) ?_);intro v3 w3 hown3 hgrow3 yK;obtain⟨A3,c3,hv3,-,-⟩:=hown3.shape;subst hv3;have hz3:=hgrow3.size;simp at hz3
   have q1:w3.cell? ⟨E.gp,4,none⟩=some (.slice A4 nd k4):=by
    rw[hgrow3.cell_far _ (by simp;omega) (fun e1=>jb.out e1.symm)];go_simp
   have q2:w3.cell? ⟨w.heap.size,2,none⟩=some (.int .i64 (tk.at_:Int)):=by
    rw[hgrow3.cell_far _ (by simp;omega) (fun e1=>BG.out e1.symm)];go_simp
   have q3:w3.cell? ⟨w.heap.size,3,none⟩=some (.int .i64 (tk.end_:Int)):=by
    rw[hgrow3.cell_far _ (by simp;omega) (fun e1=>BG.out e1.symm)];go_simp
   have hB3:=ai.grown (ai.alloc (ai.drew H2.out.blk) (.cells #[.int .i64 c,.int .i64 (tk.at_:Int),.int .i64 (tk.end_:Int),.string (aU x),.slice none 0 0] 78)) hgrow3 (fun e1=>jb.out e1.symm);have q4:=hB3.frozen 4;have HB3:=kH hB3;clear hB3;refine⟨fun _=>⟨q1,q2,q3⟩,?_⟩;iterate 2(simp only[Act.put,sA,sZ,sC];refine kD (w':=w3) rfl (by go_simp;rfl) (fun _=>⟨q1,q2,q3⟩) ?_)
   simp only[Act.put,sA,sZ,sC];refine kG (w':=w3.setCell ⟨E.gp,4,none⟩ (.slice A3 (nd+1) c3)) rfl (by go_simp) (by simp) ?_;refine ll ?_;simp only[Act.put]
   have hrep:gZ E.l v.st c x=⟨v.st.k,v.st.last,v.st.ds++[⟨c,tk.at_,tk.end_,aU x⟩]⟩:=by
    unfold gZ;rw[HKK.out,AZ.out];split
    ·rename_i d hd
     have hf:=Lr.out;rw[hd]at hf;rw[if_neg (of_decide_eq_false hf)]
    ·rfl
   have Mi:=kH hrep;have Ld:=kH hown3;have Lp:=kH hgrow3;have HAT3:=kH yK;clear hrep hown3 hgrow3 yK;go_wp2_with fail
   go_end0
   have hwz:=BH.out.size;refine⟨⟨_,rfl⟩,⟨gZ E.l v.st c x,.slice A3 (nd+1) c3⟩,rfl,⟨?_,?_,?_,?_,H2.out.good.rep c x,?_⟩,?_,?_⟩
   ·have:=HB3.out.fU 4 (.slice A3 (nd+1) c3)
    rw[Mi.out];simpa using this
   ·have CW:(Value.slice A3 (nd+1) c3).ownBlock≠some E.gp:=Ld.out.eu HB3.out (by decide)
    have:=Ld.out.setCell CW (p:=⟨E.gp,4,none⟩) (.slice A3 (nd+1) c3);rw[Mi.out];simp only[aaO,List.flatMap_append,rF.out];simpa using this
   ·have htk:=H2.out.toks
    have hnt:(Value.slice E.A E.n E.c).ownBlock≠some E.gp:=htk.eu H2.out.blk (by decide);refine(((htk.drew).alloc _).kept Lp.out ?_).setCell hnt _
    cases GU:(Value.slice E.A E.n E.c).ownBlock with
    | none=>exact .inl rfl
    | some g=>exact .inr (fun e1=>htk.apart HLV.out (by decide) g GU e1.symm)
   ·rw[Mi.out];exact H2.out.at_
   ·rw[Mi.out];exact H2.out.last
   ·exact((((az.refl (fun g=>g=E.gp\/v.lv.ownBlock=some g) w).below BH.out).drew.alloc _).grown Lp.out (fun g hg=>.inl (.inr (by rw[iU.out,rF.out];exact hg)))).setCell (.inl (.inl rfl)) _
   ·rcases HAT3.out with h1|h1
    ·exact .inl (by rw[iU.out,rF.out];exact h1)
    ·refine .inr fun g hg=>?_
     have hg2:(Value.slice A3 (nd+1) c3).ownBlock=some g:=hg;rw[h1]at hg2;simp at hg2;omega
  ·have hrep:gZ E.l v.st c x=v.st:=by
    unfold gZ;split
    ·rename_i d hd
     have hf:=Lr.out;rw[hd]at hf;rw[if_pos];rw[HKK.out,AZ.out];simpa using hf
    ·rename_i hd
     have hf:=Lr.out;rw[hd]at hf;cases hf
   have Mi:=kH hrep;clear hrep;go_wp2_with fail
   refine bodyPost_ret (results_none rfl _ _ _) rfl ?_;exact⟨⟨_,rfl⟩,v,Mi.out.symm,H2.out,PM.of_below BH.out⟩
end Go.Proofs.YtoepemlnlpamlaaGreat
