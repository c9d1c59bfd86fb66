/- The law NamesResolves holds where what it reads is of bulk at most 1048576: it returns true, and its argument reads as before. Part 5: ParW Scan Num Par1 Par2 Held. -/
import Derived.BigRegion
import Derived.RegionTactic
import Derived.ChangeAlike
import Derived.IntWalk
import Derived.Deep.RegionHeld3
import Derived.StillTail
import Derived.WalkKit
import Derived.Test.YtoepemlnlpamlaaGreatReso03
import Derived.Test.YtoepemlnlpamlaaGreatReso04
set_option maxRecDepth 100000
set_option maxHeartbeats 4000000
namespace Go.Proofs.YtoepemlnlpamlaaGreat
open Go.RowKit
def jK(t:jY):List Value:=[.int .i64 (t.kind:Int),.int .i64 (t.from_:Int),.int .i64 (t.at_:Int),.int .i64 (t.end_:Int)]
def bC(d:Dg):List Value:=[.int .i64 d.code,.int .i64 d.at_,.int .i64 d.end_,.string d.text,.slice none 0 0]
def uZ(l:List jY)(p:PS):Prop:=(p.ds.Pairwise fun a b=>a.at_<b.at_)/\∀d∈p.ds,0<=d.at_/\d.at_<=((iy l p.k).at_:Int)
theorem Qt:∀(ds:List Dg) (lo hi:Int),lo<=hi+1->(ds.Pairwise fun a b=>a.at_<b.at_)->(∀d∈ds,lo<=d.at_/\d.at_<=hi)->(ds.length:Int)<=hi - lo+1
 | [],lo,hi,h0,_,_=>by simp;omega
 | d::ds,lo,hi,_,hp,hb=>by
  rw[List.pairwise_cons]at hp;have hd:=hb d (by simp);have:=Qt ds (d.at_+1) hi (by omega) hp.2 (fun x hx=>⟨by have:=hp.1 x hx;omega,(hb x (by simp[hx])).2⟩);simp only[abR];omega
theorem uZ.len{l:List jY}{p:PS}(h:uZ l p){m:Nat}(hm:(iy l p.k).at_<=m):p.ds.length<=m+1:=by
 have:=Qt p.ds 0 (m:Int) (by omega) h.1 (fun d hd=>⟨(h.2 d hd).1,by have:=(h.2 d hd).2;omega⟩);omega
theorem uZ.rep{l:List jY}{p:PS}(h:uZ l p)(c:Int)(t:aZ):uZ l (iE l p c t):=by
 have push:(∀d∈p.ds,d.at_<((iy l p.k).at_:Int))->uZ l { p with ds:=p.ds++[⟨c,(iy l p.k).at_,(iy l p.k).end_,aX t⟩] }:=fun hlt=>by
  refine⟨?_,fun d hd=>?_⟩
  ·rw[List.pairwise_append]
   exact⟨h.1,List.pairwise_singleton _ _,fun a ha b hb=>by simp at hb;subst hb;exact hlt a ha⟩
  ·simp only[List.mem_append,List.mem_singleton]at hd
   rcases hd with hd|rfl
   ·exact h.2 d hd
   ·exact⟨by simp only;omega,by simp only;omega⟩
 unfold iE;split
 ·rename_i d hd
  split
  ·exact h
  ·rename_i hne
   refine push fun x hx=>?_
   have hdm:=List.mem_of_getLast? hd
   have hle:x.at_<=d.at_:=by
    rw[List.getLast?_eq_some_iff]at hd;obtain⟨ys,hys⟩:=hd;have hp:=h.1;rw[hys]at hp hx;rw[List.pairwise_append]at hp;simp only[List.mem_append,List.mem_singleton]at hx;rcases hx with hx|rfl
    ·have:=hp.2.2 x hx d (by simp);omega
    ·omega
   have:=(h.2 d hdm).2;omega
 ·rename_i hn
  refine push fun x hx=>?_
  rw[List.getLast?_eq_none_iff]at hn;rw[hn]at hx;cases hx
theorem uZ.read{l:List jY}{p:PS}(h:uZ l p)(hm:(iy l p.k).at_<=(iy l (p.k+1)).at_):uZ l (ay l p):=
 ⟨h.1,fun d hd=>⟨(h.2 d hd).1,by have:=(h.2 d hd).2;show d.at_<=((iy l (p.k+1)).at_:Int);omega⟩⟩
structure PE where
 gp:Nat
 lo:Nat
 s:ByteArray
 l:List jY
 A:Option Addr
 n:Nat
 c:Nat
def PE.bs(E:PE):aZ:=E.s.data.toList
structure PE.Ok (E:PE):Prop where
 len:E.l.length=E.n
 most:E.n<=5000
 size:E.s.size<=4096
 tok:∀t∈E.l,t.from_<=t.at_/\t.at_<=t.end_/\t.end_<=E.s.size/\t.kind<=5
 ends:nU E.l
 empty:qH E.bs E.l
 mono:∀k,k+1<E.l.length->(iy E.l k).at_<=(iy E.l (k+1)).at_
 low:E.lo<=E.gp
structure PV where
 st:PS
 lv:Value
structure PW (w:World) (E:PE) (v:PV):Prop where
 blk:ai w E.gp 130 #[.string E.s,.slice E.A E.n E.c,.int .i64 (v.st.k:Int),.int .i64 (v.st.last:Int),v.lv]
 own:aL w E.lo 78 5 v.lv v.st.ds.length (v.st.ds.flatMap bC)
 toks:aL w E.lo 186 4 (.slice E.A E.n E.c) E.n (E.l.flatMap jK)
 at_:v.st.k<E.n
 good:uZ E.l v.st
 last:v.st.last<=4096
structure PM (E:PE) (w:World) (v:PV) (w':World) (v':PV):Prop where
 since:aF (fun g=>g=E.gp\/v.lv.ownBlock=some g) w w'
 fresh:v'.lv.ownBlock=v.lv.ownBlock\/∀g,v'.lv.ownBlock=some g->w.heap.size<=g
theorem PM.trans{E:PE}{w w1 w2:World}{v v1 v2:PV}(h:PM E w v w1 v1)(k:PM E w1 v1 w2 v2):PM E w v w2 v2:=by
 refine⟨h.since.step k.since (fun g hg=>?_),?_⟩
 ·rcases hg with hg|hg
  ·exact .inl (.inl hg)
  ·rcases h.fresh with h1|h1
   ·exact .inl (.inr (h1 ▸ hg))
   ·exact .inr (h1 g hg)
 ·rcases k.fresh with h1|h1
  ·rw[h1]
   exact h.fresh
  ·exact .inr fun g hg=>abF h.since.size (h1 g hg)
theorem PM.of_below{E:PE}{w w':World}{v:PV}(hb:Below w.heap.size w w'):PM E w v w' v:=⟨(aF.refl _ w).below hb,.inl rfl⟩
theorem PW.below{w w':World}{E:PE}{v:PV}(h:PW w E v)(hb:Below w.heap.size w w'):PW w' E v:=
 ⟨h.blk.below hb h.blk.lt,h.own.below hb (fun g hg=>(h.own.lt g hg).2),h.toks.below hb (fun g hg=>(h.toks.lt g hg).2),h.at_,h.good,h.last⟩
theorem PM.dR{P:Nat->Prop}{E:PE}{w w':World}{v v':PV}(hm:PM E w v w' v')(h:PW w E v):bW P w w':=fun g cs _ hc=>by
 refine hm.since.block g (abH.1 hc).1 ?_;rintro(rfl|hg)
 ·have:=h.blk
  unfold ai at this;rw[hc]at this;simp at this
 ·obtain⟨cs',hc'⟩:=h.own.typed hg
  rw[hc]at hc';simp at hc'
theorem PM.below{E:PE}{w w':World}{v v':PV}(hm:PM E w v w' v')(h:PW w E v){B:Nat}(hB:B<=E.lo)(hlo:E.lo<=E.gp):Below B w w':=
 hm.since.toBelow (by have:=h.blk.lt;omega) (fun g hg=>by
  rcases hg with rfl|hg
  ·omega
  ·have:=(h.own.lt g hg).1;omega)
theorem PW.tok{w:World}{E:PE}{v:PV}(h:PW w E v)(hE:E.Ok){k:Nat}(hk:k<E.n):∃b off,E.A=some ⟨b,off,none⟩/\b<w.heap.size /\
 w.cell? ⟨b,off+k*4,none⟩=some (.int .i64 ((iy E.l k).kind:Int))/\w.cell? ⟨b,off+k*4+1,none⟩=some (.int .i64 ((iy E.l k).from_:Int)) /\
 w.cell? ⟨b,off+k*4+2,none⟩=some (.int .i64 ((iy E.l k).at_:Int))/\w.cell? ⟨b,off+k*4+3,none⟩=some (.int .i64 ((iy E.l k).end_:Int)):=by
 have hr:=h.toks.rowAt (cells:=jK) (l:=E.l) rfl rfl (by intro c _;rfl) hE.len;have hkl:k<E.l.length:=by rw[hE.len];exact hk
 have hg:E.l[k]? =some (iy E.l k):=by
  unfold iy;rw[List.getD_eq_getElem?_getD,abI hkl];rfl
 obtain⟨b,off,hA,hb,hc⟩:=hr k _ hg;exact⟨b,off,hA,hb,hc 0 _ rfl,hc 1 _ rfl,hc 2 _ rfl,hc 3 _ rfl⟩
theorem PE.Ok.get{E:PE}(hE:E.Ok)(k:Nat):(iy E.l k).at_<=(iy E.l k).end_/\(iy E.l k).end_<=E.s.size/\(iy E.l k).kind<=5:=by
 unfold iy;rw[List.getD_eq_getElem?_getD]
 cases hk:E.l[k]? with
 | none=>simp[ZQ]
 | some t=>
  have:=hE.tok t (abQ hk);exact⟨this.2.1,this.2.2.1,this.2.2.2⟩
theorem Pp:(Tryz.prog.info? 186).map (fun i=>(i.zero,i.size,i.bytes))=some (some (.agg #[.int .i64 0,.int .i64 0,.int .i64 0,.int .i64 0]),4,32):=by kernel_rfl
theorem rQ(w:World)(g:Nat)(a b c d:Value)(h0:w.cell? ⟨g,0,none⟩=some a)(h1:w.cell? ⟨g,1,none⟩=some b)(h2:w.cell? ⟨g,2,none⟩=some c)(h3:w.cell? ⟨g,3,none⟩=some d):
 ∀j v,[a,b,c,d][j]? =some v->w.cell? ((⟨g,0,none⟩:Addr).add j)=some v:=by
 intro j v hj
 match j,hj with
 | 0,hj=>simp at hj;subst hj;exact h0
 | 1,hj=>simp at hj;subst hj;exact h1
 | 2,hj=>simp at hj;subst hj;exact h2
 | 3,hj=>simp at hj;subst hj;exact h3
 | j+4,hj=>simp at hj
def ScanRes(w:World)(l:List jY)(e:Ending)(w':World):Prop:=
 ∃v,e= .returned (.tuple #[v,.int .i64 0])/\aL w' w.heap.size 186 4 v l.length (l.flatMap jK)/\Below w.heap.size w w'
theorem RX(s:ByteArray)(w:World)(hs:s.size<=4096):Calls Tryz.prog 123 #[.string s] w (ScanRes w (qY s.data.toList)):=by
 obtain⟨i0,hi0,hz0,hz1,hz2⟩:=info_parts Pp;have hgt:¬(4096:Int)<s.size:=by omega
 go_enter Tryz.func123,Tryz.ntmps123
 go_wp2_with fail
 go_loopg [4,5] (s.size) (fun gk s4 s5 wr=> ∃(f k:Nat) (pre:List jY),k+gk=s.size/\s5= .int .i64 k/\qY s.data.toList=pre++uB s.data.toList f k/\s.size<f+k/\aL wr w.heap.size 186 4 s4 pre.length (pre.flatMap jK)/\pre.length<=k/\Below w.heap.size w wr)
 case atStart=>exact⟨s.size+1,0,[],by omega,rfl,by rw[qY,bP];rfl,by omega,aL.block (n:=0) (cur:=#[]) (abE _) (ai.new w 186 #[]) (by simp[maxLen]) rfl,abE _,by(repeat (first|exact Below.refl _ _|assumption|refine Below.trans ?_ (Below.mono (by assumption) (by first|omega|(simp;done)|(simp;omega)))|refine Below.alloc ?_ (by first|omega|(simp;done)|(simp;omega)) _|refine Below.setCell ?_ (by first|omega|(simp;done)|(simp;omega)) _|refine Below.drew ?_|refine aR ?_ _))⟩
 case round=>
  obtain⟨f,k,pre,hk,rfl,hsc,hf,hO,hpl,hB⟩:=hrel;have hk':k<=s.size:=by omega
  obtain⟨f,rfl⟩:∃g,f=g+1:=⟨f - 1,by omega⟩
  obtain⟨k1,hk1⟩:∃x,j4 s.data.toList (s.size+1) k=x:=⟨_,rfl⟩
  have hspec:=DF (s:=s.data.toList) (s.size+1) k (by rw[bP];exact hk') (by rw[bP];omega);rw[hk1,bP]at hspec;obtain⟨hle,hle2,hstop⟩:=hspec;have hskip:∀w:World,Calls Tryz.prog 179 #[.string s,.int .i64 (k:Int)] w fun e w'=>e= .returned (.int .i64 (k1:Int))/\w=w':=fun w=>by rw[<- hk1];exact ZY s k w hk' hs
  have hstep:uB s.data.toList (f+1) k=if s.size<=k1 then [⟨5,k,k1,k1⟩] else⟨(gI s.data.toList k1).1,k,k1,(gI s.data.toList k1).2⟩::uB s.data.toList f (gI s.data.toList k1).2:=by
   rw[uB,bP,hk1]
  have HK:=kH hk;have Zu:=kH hsc;have HO:=kH hO;have HSKIP:=kH hskip;have BU:=kH hstep;have HSTOP:=kH hstop;obtain⟨n,hn⟩:∃x,pre.length=x:=⟨_,rfl⟩
  obtain⟨A4,c4,hv4,-,-⟩:=hO.shape;subst hv4;rw[hn]at HO hpl⊢;have HN:=kH hn;clear hk hsc hO hskip hstep hstop hk1 hn;have hbs:=hB.size;by_cases hlt:k1<s.size
  ·have hne:((k1:Int)==s.size)=false:=by simp;omega
   have ht:=Cb (s:=s.data.toList) (a:=k1) (by rw[bP];exact hlt) (HSTOP.out hlt).1 (HSTOP.out hlt).2;rw[bP]at ht;have hst:uB s.data.toList (f+1) k=⟨(gI s.data.toList k1).1,k,k1,(gI s.data.toList k1).2⟩::uB s.data.toList f (gI s.data.toList k1).2:=by rw[BU.out,if_neg (by omega)]
   have htk:=fun w=>Nn s k1 w hlt hs
   obtain⟨⟨tk,te⟩,NN⟩:∃x,gI s.data.toList k1=x:=⟨_,rfl⟩
   rw[NN]at ht hst;simp only[NN]at htk;simp only at ht hst;obtain⟨ht1,ht2,ht3⟩:=ht;have HST:=kH hst;have BS:=kH htk;clear hst htk NN;go_wp2_with fail
   refine(HSKIP.out _).mono ?_;rintro e w' ⟨rfl,rfl⟩;go_wp2_with fail
   refine(BS.out _).mono ?_;rintro e w2 ⟨rfl,hb2⟩;have hz2':=hb2.size;have hown2:=HO.out.below hb2 (fun g hg=>(HO.out.lt g hg).2);have uy:=kH hown2;clear hown2;go_wp2_with (at_builtin;go_must (refine dm _ rfl (.tmp 33) (.tmp 39) _ rfl w.heap.size 186 i0 _ 4 32 Tryz.underlying128 hi0 hz0 hz1 hz2 rfl (.slice A4 n c4) n (pre.flatMap jK) rfl (uy.out.alloc _) ⟨w2.heap.size,0,none⟩ 1 1 (jK ⟨tk,k,k1,te⟩) rfl rfl (rQ _ _ _ _ _ _ (by go_simp) (by go_simp) (by go_simp) (by go_simp)) (by simp[jK,Value.oneCell']) (by simp only[maxLen];omega) (by omega) (by simp;omega) ?_);intro v5 w5 hown5 Q4 hat5)
   have aaB:=fun g hg=>(uy.out.lt g hg).1
   go_roundg (s.size - te)
   case measure=>have:=HK.out;omega
   case rel=>
    refine⟨f,te,pre++[⟨tk,k,k1,te⟩],by omega,rfl,?_,by omega,?_,by simp[HN.out];omega,?_⟩
    ·rw[Zu.out,HST.out,List.append_assoc]
     rfl
    ·rw[abP,HN.out,List.flatMap_append]
     simpa using hown5
    ·exact hB.trans ((((aF.refl (fun g=>w.heap.size<=g) wr).below hb2).alloc (.cells #[.int .i64 (tk:Int),.int .i64 (k:Int),.int .i64 (k1:Int),.int .i64 (te:Int)] 186) |>.grown Q4 (fun g hg=>.inl (aaB g hg))).toBelow hbs (fun g h=>h))
  ·have hke:k1=s.size:=by omega
   have hst:qY s.data.toList=pre++[⟨5,k,s.size,s.size⟩]:=by rw[Zu.out,BU.out,if_pos (by omega),hke]
   have HST:=kH hst;clear hst;subst hke;have heq:((s.size:Int)==s.size)=true:=by simp
   go_wp2_with fail
   refine(HSKIP.out _).mono ?_;rintro e w' ⟨rfl,rfl⟩;go_wp2_with (at_builtin;go_must (refine dm _ rfl (.tmp 20) (.tmp 25) _ rfl w.heap.size 186 i0 _ 4 32 Tryz.underlying128 hi0 hz0 hz1 hz2 rfl (.slice A4 n c4) n (pre.flatMap jK) rfl (HO.out.alloc _) ⟨wr.heap.size,0,none⟩ 1 1 (jK ⟨5,k,s.size,s.size⟩) rfl rfl (rQ _ _ _ _ _ _ (by go_simp) (by go_simp) (by go_simp) (by go_simp)) (by simp[jK,Value.oneCell']) (by simp only[maxLen];omega) (by omega) (by simp;omega) ?_);intro v5 w5 hown5 Q4 hat5)
   have aaB:=fun g hg=>(HO.out.lt g hg).1
   go_ret2
   refine⟨v5,rfl,?_,?_⟩
   ·rw[HST.out,abP,HN.out,List.flatMap_append]
    simpa using hown5
   ·exact hB.trans ((((aF.refl (fun g=>w.heap.size<=g) wr).alloc (.cells #[.int .i64 5,.int .i64 (k:Int),.int .i64 (s.size:Int),.int .i64 (s.size:Int)] 186)).grown Q4 (fun g hg=>.inl (aaB g hg))).toBelow hbs (fun g h=>h))
theorem Oh(s:ByteArray)(i:Nat)(h:i<s.size):s.data.toList.drop i=(s[i]'h)::s.data.toList.drop (i+1):=by
 rw[List.drop_eq_getElem_cons (by simpa using h)];rfl
theorem Mm(s:ByteArray)(w:World)(hs:s.size<=4096):
 Calls Tryz.prog 132 #[.string s] w fun e w'=>e= .returned (.tuple #[.int .i64 (((fT s.data.toList).getD 0:Nat):Int),.bool (fT s.data.toList).isSome])/\w=w':=by
 by_cases h1:s.size<1
 ·have YS:(s.size:Int)<1:=by omega
  have hres:fT s.data.toList=none:=by unfold fT;rw[bP,if_pos (.inl h1)]
  rw[hres];clear hres;go_enter Tryz.func132,Tryz.ntmps132
  go_wp2_with fail
  go_ret2
  exact⟨rfl,rfl⟩
 have YS:¬(s.size:Int)<1:=by omega
 by_cases h9:9<s.size
 ·have h9i:(9:Int)<s.size:=by omega
  have hres:fT s.data.toList=none:=by unfold fT;rw[bP,if_pos (.inr h9)]
  rw[hres];clear hres;go_enter Tryz.func132,Tryz.ntmps132
  go_wp2_with fail
  go_ret2
  exact⟨rfl,rfl⟩
 have h9i:¬(9:Int)<s.size:=by omega
 have D5:fT s.data.toList=xR s.data.toList 0:=by unfold fT;rw[bP,if_neg (by omega)]
 rw[D5];clear D5;go_enter Tryz.func132,Tryz.ntmps132
 go_wp2_with fail
 go_loopg [4,5] (s.size) (fun gk s4 s5 wr=> ∃i n:Nat,i+gk=s.size/\s5= .int .i64 i/\s4= .int .i64 n/\xR s.data.toList 0=xR (s.data.toList.drop i) n/\n<10 ^ i/\w=wr)
 case atStart=>exact⟨0,0,by omega,rfl,rfl,rfl,by decide,rfl⟩
 case round=>
  obtain⟨i,n,hi,rfl,rfl,hnm,hn,rfl⟩:=hrel;have hi':i<=s.size:=by omega
  have HI:=kH hi;have qP:=kH hnm;have HN:=kH hn;clear hi hnm hn;by_cases hlt:i<s.size
  ·have hn8:n<=100000000:=by
    have h2:10 ^ i<=10 ^ 8:=Nat.pow_le_pow_right (by omega) (by omega);have:=HN.out;omega
   have hii:(i:Int)<s.size:=by omega
   have hst:xR (s.data.toList.drop i) n=if fP (s[i]'hlt).toNat then xR (s.data.toList.drop (i+1)) (10*n+((s[i]'hlt).toNat - 48)) else none:=by
    rw[Oh s i hlt,xR]
   obtain⟨c,hc⟩:∃c,(s[i]'hlt).toNat=c:=⟨_,rfl⟩
   rw[hc]at hst;obtain⟨bd,hbd⟩:∃x,fP c=x:=⟨_,rfl⟩
   rw[hbd]at hst;have zy:=kH hbd;have HST:=kH hst;clear hst hbd;cases bd
   ·have hres:xR s.data.toList 0=none:=by rw[qP.out,HST.out];rfl
    have aM:=kH hres;clear hres;go_wp2_with fail
    refine(mM c _).mono ?_;rintro e w' ⟨rfl,rfl⟩;rw[zy.out];go_wp2_with fail
    go_ret2
    exact⟨by rw[aM.out];rfl,rfl⟩
   ·have hcd:=zy.out
    unfold fP at hcd;simp at hcd;obtain⟨hc1,hc2⟩:=hcd;have hc1i:(48:Int)<=(c:Int):=by omega
    have hc2i:(c:Int)<=57:=by omega
    have hn8i:(n:Int)<=100000000:=by omega
    go_wp2_with fail
    refine(mM c _).mono ?_;rintro e w' ⟨rfl,rfl⟩;rw[zy.out];go_wp2_with fail
    go_roundg (gk - 1)
    case measure=>have:=HI.out;omega
    case rel=>
     refine⟨i+1,10*n+(c - 48),by have:=HI.out;omega,by go_num,congrArg (Value.int .i64) (by omega),?_,?_,rfl⟩
     ·rw[qP.out,HST.out];rfl
     ·have:=HN.out
      rw[Nat.pow_succ];omega
  ·have his:i=s.size:=by omega
   have hres:xR s.data.toList 0=some n:=by
    rw[qP.out,List.drop_of_length_le (by rw[bP];omega)];rfl
   have aM:=kH hres;clear hres;subst his;go_wp2_with fail
   go_ret2
   exact⟨by rw[aM.out];rfl,rfl⟩
theorem aak(x:ByteArray):aX x.data.toList=x:=rfl
theorem RF{t:aZ}{c:UInt8}{r:aZ}(h:t=48::c::r):gB t=gB (c::r):=by rw[h];rfl
theorem Gb{t:aZ}(h:t.length<=1\/bz t 0≠48):gB t=t:=by
 match t,h with
 | [],_=>rfl
 | [x],_=>unfold gB;split<;>rename_i h1<;>simp_all
 | x::c::r,h=>
  unfold gB;split
  ·rename_i h1
   simp[bz]at h;cases h1
   exact absurd rfl h
  ·rfl
theorem L6(s:ByteArray)(w:World)(hs:s.size<=4096):
 Calls Tryz.prog 231 #[.string s] w fun e w'=>e= .returned (.string (aX (gB s.data.toList)))/\w=w':=by
 go_enter Tryz.func231,Tryz.ntmps231
 go_wp2_with fail
 go_loopg [0] (s.size) (fun gk s0 wr=> ∃t:ByteArray,t.size=gk/\s0= .string t/\gB s.data.toList=gB t.data.toList/\t.size<=4096/\w=wr)
 case atStart=>exact⟨s,rfl,rfl,rfl,hs,rfl⟩
 case round=>
  obtain⟨t,ht,rfl,hd,hts,rfl⟩:=hrel;have HT:=kH ht;have HD:=kH hd;clear ht hd;by_cases h1:1<t.size
  ·have YS:(1:Int)<t.size:=by omega
   have h0:0<t.size:=by omega
   obtain⟨c,hc⟩:∃c,(t[0]'h0).toNat=c:=⟨_,rfl⟩
   have hbz:bz t.data.toList 0=c:=by rw[<- mZ t 0 h0,hc]
   by_cases h48:c=48
   ·have hlist:t.data.toList=48::(t.extract 1 t.size).data.toList:=by
     rw[Di];have h2:=Oh t 0 h0;rw[List.drop_zero]at h2;rw[h2];unfold tQ;have h3:(t[0]'h0)=48:=UInt8.toNat_inj.1 (by rw[hc,h48];rfl);rw[h3];simp;rw[List.take_of_length_le (by simp)]
    have hsz:(t.extract 1 t.size).size=t.size - 1:=by simp
    have hst:gB t.data.toList=gB (t.extract 1 t.size).data.toList:=by
     obtain⟨x,r,hxr⟩:∃x r,(t.extract 1 t.size).data.toList=x::r:=by
      cases hq:(t.extract 1 t.size).data.toList with
      | nil=>
       have:=congrArg List.length hq;rw[bP,hsz]at this;simp at this;omega
      | cons x r=>exact⟨x,r,rfl⟩
     rw[hxr];exact RF (by rw[hlist,hxr])
    have hci:((c:Int)==48)=true:=by simp;omega
    have HST:=kH hst;have Uv:=kH hsz;clear hlist hst hsz h48 hbz;go_wp2_with fail
    go_roundg (gk - 1)
    case measure=>have:=HT.out;omega
    case rel=>exact⟨t.extract 1 t.size,by rw[Uv.out,HT.out],rfl,HD.out.trans HST.out,by rw[Uv.out];omega,rfl⟩
   ·have hci:((c:Int)==48)=false:=by simp;omega
    have hst:gB s.data.toList=t.data.toList:=HD.out.trans (Gb (.inr (by rw[hbz];exact h48)));have HST:=kH hst;clear hst hbz h48;go_wp2_with fail
    go_ret
    exact⟨by rw[HST.out];rfl,rfl⟩
  ·have YS:¬(1:Int)<t.size:=by omega
   have hst:gB s.data.toList=t.data.toList:=HD.out.trans (Gb (.inl (by rw[bP];omega)));have HST:=kH hst;clear hst;go_wp2_with fail
   go_ret
   exact⟨by rw[HST.out];rfl,rfl⟩
theorem bstep{W0 a b:World}(h:Below W0.heap.size W0 a)(hb:Below a.heap.size a b):Below W0.heap.size W0 b:=h.trans (hb.mono h.size)
theorem ext_mk(s:ByteArray)(a b:Nat):s.extract a b=aX (tQ s.data.toList a b):=by rw[<- Di,aak]
theorem Kc(s:ByteArray)(k f a e:Nat)(w:World)(ha:a<=e)(he:e<=s.size):
 Calls Tryz.prog 133 #[.string s,.agg #[.int .i64 (k:Int),.int .i64 (f:Int),.int .i64 (a:Int),.int .i64 (e:Int)]] w fun x w'=>x= .returned (.string (aX (tQ s.data.toList a e)))/\Below w.heap.size w w':=by
 have h1:(a:Int)<=(e:Int):=by omega
 have h2:(e:Int)<=s.size:=by omega
 have hx:=ext_mk s a e;rw[<- hx];clear hx;go_enter Tryz.func133,Tryz.ntmps133
 go_wp2_with fail
 go_ret
 exact⟨rfl,by(repeat (first|exact Below.refl _ _|assumption|refine Below.trans ?_ (Below.mono (by assumption) (by first|omega|(simp;done)|(simp;omega)))|refine Below.alloc ?_ (by first|omega|(simp;done)|(simp;omega)) _|refine Below.setCell ?_ (by first|omega|(simp;done)|(simp;omega)) _|refine Below.drew ?_|refine aR ?_ _))⟩
theorem PW.open{w:World}{E:PE}{v:PV}(h:PW w E v)(hE:E.Ok):∃b off,E.A=some ⟨b,off,none⟩/\b<w.heap.size/\w.cell? ⟨E.gp,0,none⟩=some (.string E.s)/\w.cell? ⟨E.gp,1,none⟩=some (.slice (some ⟨b,off,none⟩) E.n E.c)/\w.cell? ⟨E.gp,2,none⟩=some (.int .i64 (v.st.k:Int))/\w.cell? ⟨E.gp,3,none⟩=some (.int .i64 (v.st.last:Int))/\w.cell? ⟨E.gp,4,none⟩=some v.lv /\
 w.cell? ⟨b,off+v.st.k*4,none⟩=some (.int .i64 ((iy E.l v.st.k).kind:Int))/\w.cell? ⟨b,off+v.st.k*4+1,none⟩=some (.int .i64 ((iy E.l v.st.k).from_:Int)) /\
 w.cell? ⟨b,off+v.st.k*4+2,none⟩=some (.int .i64 ((iy E.l v.st.k).at_:Int))/\w.cell? ⟨b,off+v.st.k*4+3,none⟩=some (.int .i64 ((iy E.l v.st.k).end_:Int)):=by
 obtain⟨b,off,hA,hb,t0,t1,t2,t3⟩:=h.tok hE h.at_;have c1:=h.blk.cell 1;rw[hA]at c1;exact⟨b,off,hA,hb,h.blk.cell 0,c1,h.blk.cell 2,h.blk.cell 3,h.blk.cell 4,t0,t1,t2,t3⟩
theorem pI(E:PE)(hE:E.Ok)(v:PV)(w:World)(h:PW w E v):
 Calls Tryz.prog 65 #[.pointer (some ⟨E.gp,0,none⟩)] w fun e w'=>e= .returned (.int .i64 (bM E.l v.st:Int))/\Below w.heap.size w w':=by
 obtain⟨b,off,-,hb,-,c1,c2,-,-,t0,-,-,-⟩:=h.open hE;have hk:(v.st.k:Int)<E.n:=by have:=h.at_;omega
 have hk2:=h.at_;obtain⟨n,hn⟩:∃x,E.n=x:=⟨_,rfl⟩
 rw[hn]at c1 hk hk2;obtain⟨k,hkk⟩:∃x,v.st.k=x:=⟨_,rfl⟩
 unfold bM;rw[hkk]at c2 t0 hk hk2⊢;clear hn hkk;go_enter Tryz.func65,Tryz.ntmps65
 go_wp2_with fail
 go_quiet (fail)
 go_wp2_with fail
 go_ret
 exact⟨rfl,by(repeat (first|exact Below.refl _ _|assumption|refine Below.trans ?_ (Below.mono (by assumption) (by first|omega|(simp;done)|(simp;omega)))|refine Below.alloc ?_ (by first|omega|(simp;done)|(simp;omega)) _|refine Below.setCell ?_ (by first|omega|(simp;done)|(simp;omega)) _|refine Below.drew ?_|refine aR ?_ _))⟩
theorem DR(E:PE)(hE:E.Ok)(v:PV)(w:World)(h:PW w E v):
 Calls Tryz.prog 124 #[.pointer (some ⟨E.gp,0,none⟩)] w fun e w'=>e= .returned (.string (aX (bK E.bs E.l v.st.k)))/\Below w.heap.size w w':=by
 obtain⟨b,off,-,hb,c0,c1,c2,-,-,t0,t1,t2,t3⟩:=h.open hE;have hk:(v.st.k:Int)<E.n:=by have:=h.at_;omega
 have hk2:=h.at_;have hg:=hE.get v.st.k;unfold bK Bq PE.bs;obtain⟨n,hn⟩:∃x,E.n=x:=⟨_,rfl⟩
 rw[hn]at c1 hk hk2;obtain⟨k,hkk⟩:∃x,v.st.k=x:=⟨_,rfl⟩
 rw[hkk]at c2 t0 t1 t2 t3 hk hk2 hg⊢;obtain⟨tk,htk⟩:∃x,iy E.l k=x:=⟨_,rfl⟩
 rw[htk]at t0 t1 t2 t3 hg⊢;clear hn hkk htk;have hword:=fun w=>Kc E.s tk.kind tk.from_ tk.at_ tk.end_ w hg.1 hg.2.1
 have HW:=kH hword;clear hword;have hgl:=h.blk.lt;have kF:∀w':World,Below w.heap.size w w'->(fun w'=>w'.cell? ⟨E.gp,0,none⟩=some (.string E.s)/\w'.cell? ⟨E.gp,1,none⟩=some (.slice (some ⟨b,off,none⟩) n E.c)/\w'.cell? ⟨E.gp,2,none⟩=some (.int .i64 (k:Int))/\w'.cell? ⟨b,off+k*4,none⟩=some (.int .i64 (tk.kind:Int))/\w'.cell? ⟨b,off+k*4+1,none⟩=some (.int .i64 (tk.from_:Int))/\w'.cell? ⟨b,off+k*4+2,none⟩=some (.int .i64 (tk.at_:Int))/\w'.cell? ⟨b,off+k*4+3,none⟩=some (.int .i64 (tk.end_:Int))) w':=fun w' hb'=>⟨(hb'.cell (p:=⟨E.gp,_,none⟩) hgl).trans c0,(hb'.cell (p:=⟨E.gp,_,none⟩) hgl).trans c1,(hb'.cell (p:=⟨E.gp,_,none⟩) hgl).trans c2,(hb'.cell (p:=⟨b,_,none⟩) hb).trans t0,(hb'.cell (p:=⟨b,_,none⟩) hb).trans t1,(hb'.cell (p:=⟨b,_,none⟩) hb).trans t2,(hb'.cell (p:=⟨b,_,none⟩) hb).trans t3⟩
 have dU:=kH kF;have hBd:Below w.heap.size w w.drew:=(Below.refl _ _).drew;clear kF;go_enter Tryz.func124,Tryz.ntmps124
 go_wp2_with fail
 go_region_held3 (fun w'=>w'.cell? ⟨E.gp,0,none⟩=some (.string E.s)/\w'.cell? ⟨E.gp,1,none⟩=some (.slice (some ⟨b,off,none⟩) n E.c)/\w'.cell? ⟨E.gp,2,none⟩=some (.int .i64 (k:Int))/\w'.cell? ⟨b,off+k*4,none⟩=some (.int .i64 (tk.kind:Int))/\w'.cell? ⟨b,off+k*4+1,none⟩=some (.int .i64 (tk.from_:Int))/\w'.cell? ⟨b,off+k*4+2,none⟩=some (.int .i64 (tk.at_:Int))/\w'.cell? ⟨b,off+k*4+3,none⟩=some (.int .i64 (tk.end_:Int))) ((exact dU.out _ (by assumption))) ((go_at_call 133;refine(HW.out _).mono ?_;rintro e w1 ⟨rfl,hb1⟩;have hB1:=bstep (W0:=w) (by assumption) hb1))
 go_wp2_with fail
 go_ret
 exact⟨rfl,by assumption⟩
theorem WW(E:PE)(hE:E.Ok)(v:PV)(w:World)(h:PW w E v):
 Calls Tryz.prog 137 #[.pointer (some ⟨E.gp,0,none⟩)] w fun e w'=>e= .returned (.string (aX (og E.bs E.l v.st)))/\Below w.heap.size w w':=by
 obtain⟨b,off,hA,hb,c0,c1,c2,-,-,-,-,-,-⟩:=h.open hE;have hk2:=h.at_;have zJ:=hE.most;by_cases hlt:v.st.k+1<E.n
 ·obtain⟨b',off',hA',-,t0,t1,t2,t3⟩:=h.tok hE hlt
  rw[hA]at hA';cases hA'
  have hk:(v.st.k:Int)+1<E.n:=by omega
  have hg:=hE.get (v.st.k+1);unfold og;rw[if_pos (by rw[hE.len];exact hlt)];unfold bK Bq PE.bs;obtain⟨n,hn⟩:∃x,E.n=x:=⟨_,rfl⟩
  rw[hn]at c1 hk hk2 hlt zJ;obtain⟨k,hkk⟩:∃x,v.st.k=x:=⟨_,rfl⟩
  rw[hkk]at c2 t0 t1 t2 t3 hk hk2 hg hlt⊢;obtain⟨tk,htk⟩:∃x,iy E.l (k+1)=x:=⟨_,rfl⟩
  rw[htk]at t0 t1 t2 t3 hg⊢;clear hn hkk htk;have hword:=fun w=>Kc E.s tk.kind tk.from_ tk.at_ tk.end_ w hg.1 hg.2.1
  have HW:=kH hword;clear hword;have hgl:=h.blk.lt;have kF:∀w':World,Below w.heap.size w w'->(fun w'=>w'.cell? ⟨E.gp,0,none⟩=some (.string E.s)/\w'.cell? ⟨E.gp,1,none⟩=some (.slice (some ⟨b,off,none⟩) n E.c)/\w'.cell? ⟨E.gp,2,none⟩=some (.int .i64 (k:Int))/\w'.cell? ⟨b,off+(k+1)*4,none⟩=some (.int .i64 (tk.kind:Int))/\w'.cell? ⟨b,off+(k+1)*4+1,none⟩=some (.int .i64 (tk.from_:Int))/\w'.cell? ⟨b,off+(k+1)*4+2,none⟩=some (.int .i64 (tk.at_:Int))/\w'.cell? ⟨b,off+(k+1)*4+3,none⟩=some (.int .i64 (tk.end_:Int))) w':=fun w' hb'=>⟨(hb'.cell (p:=⟨E.gp,_,none⟩) hgl).trans c0,(hb'.cell (p:=⟨E.gp,_,none⟩) hgl).trans c1,(hb'.cell (p:=⟨E.gp,_,none⟩) hgl).trans c2,(hb'.cell (p:=⟨b,_,none⟩) hb).trans t0,(hb'.cell (p:=⟨b,_,none⟩) hb).trans t1,(hb'.cell (p:=⟨b,_,none⟩) hb).trans t2,(hb'.cell (p:=⟨b,_,none⟩) hb).trans t3⟩
  have dU:=kH kF;have hBn:∀m,Below w.heap.size w ((w.drewN m).drew):=fun m=>(aR (Below.refl _ _) m).drew
  have MH:=kH hBn;clear hBn;clear kF;go_enter Tryz.func137,Tryz.ntmps137
  go_wp2_with fail
  go_quiet (fail)
  go_wp2_with fail
  have hwr:IntKind.i64.wrap ((k:Int)+1)=(k:Int)+1:=IntWalk.i64_in _ (by omega);have hnn:(0:Int)<=(k:Int)+1:=by omega
  have htn:((k:Int)+1).toNat=k+1:=by omega
  go_region_held3 (fun w'=>w'.cell? ⟨E.gp,0,none⟩=some (.string E.s)/\w'.cell? ⟨E.gp,1,none⟩=some (.slice (some ⟨b,off,none⟩) n E.c)/\w'.cell? ⟨E.gp,2,none⟩=some (.int .i64 (k:Int))/\w'.cell? ⟨b,off+(k+1)*4,none⟩=some (.int .i64 (tk.kind:Int))/\w'.cell? ⟨b,off+(k+1)*4+1,none⟩=some (.int .i64 (tk.from_:Int))/\w'.cell? ⟨b,off+(k+1)*4+2,none⟩=some (.int .i64 (tk.at_:Int))/\w'.cell? ⟨b,off+(k+1)*4+3,none⟩=some (.int .i64 (tk.end_:Int))) ((first|exact dU.out _ (by assumption)|exact dU.out _ (MH.out _))) ((go_at_call 133;refine(HW.out _).mono ?_;rintro e w1 ⟨rfl,hb1⟩;have hB1:=bstep (W0:=w) (by first|assumption|exact MH.out _) hb1))
  go_wp2_with fail
  go_ret
  exact⟨rfl,by assumption⟩
 ·have hk:¬(v.st.k:Int)+1<E.n:=by omega
  unfold og;rw[if_neg (by rw[hE.len];exact hlt)];obtain⟨n,hn⟩:∃x,E.n=x:=⟨_,rfl⟩
  rw[hn]at c1 hk hk2 hlt zJ;obtain⟨k,hkk⟩:∃x,v.st.k=x:=⟨_,rfl⟩
  rw[hkk]at c2 hk hk2 hlt;clear hn hkk;have hwr:IntKind.i64.wrap ((k:Int)+1)=(k:Int)+1:=IntWalk.i64_in _ (by omega);have HX:Hid (¬k+1<n):=kH hlt;clear hlt;go_enter Tryz.func137,Tryz.ntmps137
  go_wp2_with fail
  go_quiet (fail)
  go_wp2_with fail
  go_ret
  exact⟨rfl,by(repeat (first|exact Below.refl _ _|assumption|refine Below.trans ?_ (Below.mono (by assumption) (by first|omega|(simp;done)|(simp;omega)))|refine Below.alloc ?_ (by first|omega|(simp;done)|(simp;omega)) _|refine Below.setCell ?_ (by first|omega|(simp;done)|(simp;omega)) _|refine Below.drew ?_|refine aR ?_ _))⟩
theorem yI(E:PE)(hE:E.Ok)(v:PV)(x:aZ)(w:World)(h:PW w E v):
 Calls Tryz.prog 66 #[.pointer (some ⟨E.gp,0,none⟩),.string (aX x)] w fun e w'=>e= .returned (.bool (bE E.bs E.l v.st x))/\Below w.heap.size w w':=by
 have hkd:=pI E hE v w h;have hnx:=fun w' (h':PW w' E v)=>DR E hE v w' h'
 have hkl:=(hE.get v.st.k).2.2;unfold bE bM at*;obtain⟨k,hk⟩:∃x,(iy E.l v.st.k).kind=x:=⟨_,rfl⟩
 rw[hk]at hkd hkl⊢;obtain⟨y,hy⟩:∃y,bK E.bs E.l v.st.k=y:=⟨_,rfl⟩
 rw[hy]at hnx⊢;have qG:=kH hkd;have bF:=kH hnx;clear hk hy hkd hnx;by_cases h5:k=5
 ·have hki:((k:Int) !=5)=false:=by simp;omega
  have hres:(decide (k≠5)&&decide (y=x))=false:=by simp[h5]
  rw[hres];clear hres h5;go_enter Tryz.func66,Tryz.ntmps66
  go_wp2_with fail
  refine qG.out.mono ?_;rintro e w1 ⟨rfl,hb1⟩;go_wp2_with fail
  go_ret
  exact⟨rfl,hb1⟩
 ·have hki:((k:Int) !=5)=true:=by simp;omega
  have hres:(decide (k≠5)&&decide (y=x))=decide (y=x):=by simp[h5]
  rw[hres];clear hres h5;go_enter Tryz.func66,Tryz.ntmps66
  go_wp2_with fail
  refine qG.out.mono ?_;rintro e w1 ⟨rfl,hb1⟩;go_wp2_with fail
  refine(bF.out w1 (h.below hb1)).mono ?_;rintro e w2 ⟨rfl,hb2⟩;go_wp2_with fail
  go_ret
  refine⟨bH ?_,hb1.trans (hb2.mono hb1.size)⟩;rw[Bool.eq_iff_iff];simp[aX]
theorem Z8{E:PE}(hE:E.Ok){v:PV}{w:World}(h:PW w E v)(h5:bM E.l v.st≠5):
 PW ((w.setCell ⟨E.gp,3,none⟩ (.int .i64 ((iy E.l v.st.k).end_:Int))).setCell ⟨E.gp,2,none⟩ (.int .i64 ((v.st.k:Int)+1))).drew E ⟨ay E.l v.st,v.lv⟩ /\
 PM E w v ((w.setCell ⟨E.gp,3,none⟩ (.int .i64 ((iy E.l v.st.k).end_:Int))).setCell ⟨E.gp,2,none⟩ (.int .i64 ((v.st.k:Int)+1))).drew ⟨ay E.l v.st,v.lv⟩:=by
 have hkl:v.st.k<E.l.length:=by rw[hE.len];exact h.at_
 have hlt:=hE.ends _ hkl h5;have hn1:v.lv.ownBlock≠some E.gp:=h.own.bZ h.blk (by decide);have hn2:(Value.slice E.A E.n E.c).ownBlock≠some E.gp:=h.toks.bZ h.blk (by decide);refine⟨⟨?_,(h.own.setCell hn1 _).setCell hn1 _,(h.toks.setCell hn2 _).setCell hn2 _,?_,h.good.read (hE.mono _ hlt),?_⟩,⟨((aF.refl (fun g=>g=E.gp\/v.lv.ownBlock=some g) w).setCell (.inl (.inl rfl)) _).setCell (.inl (.inl rfl)) _ |>.drew,.inl rfl⟩⟩
 ·have:=((h.blk.fM 3 (.int .i64 ((iy E.l v.st.k).end_:Int))).fM 2 (.int .i64 ((v.st.k:Int)+1))).drew
  simpa [ay] using this
 ·show v.st.k+1<E.n
  rw[<- hE.len];exact hlt
 ·have:=(hE.get v.st.k).2.1
  have:=hE.size;show(iy E.l v.st.k).end_<=4096;omega
theorem qJ(E:PE)(hE:E.Ok)(v:PV)(w:World)(h:PW w E v)(h5:bM E.l v.st≠5):
 Calls Tryz.prog 70 #[.pointer (some ⟨E.gp,0,none⟩)] w fun e w'=>e= .returned (.string (aX (bK E.bs E.l v.st.k)))/\PW w' E ⟨ay E.l v.st,v.lv⟩/\PM E w v w' ⟨ay E.l v.st,v.lv⟩:=by
 have hnx:=DR E hE v w h;have bF:=kH hnx;have H:=kH h;clear hnx;go_enter Tryz.func70,Tryz.ntmps70
 go_wp2_with fail
 refine bF.out.mono ?_;rintro e w1 ⟨rfl,hb1⟩;have h1:=H.out.below hb1;have H1:=kH h1;obtain⟨b,off,-,hb,-,c1,c2,c3,-,-,-,-,t3⟩:=h1.open hE;have hk2:=h1.at_;have zJ:=hE.most;have hk:(v.st.k:Int)<E.n:=by omega
 have hf2:=h1.blk.frozen 2;have hf3:=h1.blk.frozen 3;have hwr:IntKind.i64.wrap ((v.st.k:Int)+1)=(v.st.k:Int)+1:=IntWalk.i64_in _ (by omega);obtain⟨n,hn⟩:∃x,E.n=x:=⟨_,rfl⟩
 rw[hn]at c1 hk hk2;obtain⟨k,hkk⟩:∃x,v.st.k=x:=⟨_,rfl⟩
 rw[hkk]at c2 t3 hk hk2 hwr;obtain⟨te,hte⟩:∃x,(iy E.l k).end_=x:=⟨_,rfl⟩
 rw[hte]at t3;have HKK:=kH hkk;have HTE:=kH hte;clear hn hkk hte h1 h;go_wp2_with fail
 go_region
 go_wp2_with fail
 go_ret
 have hz:=Z8 hE H1.out h5;rw[HKK.out,HTE.out]at hz;exact⟨rfl,hz.1,(PM.of_below hb1).trans hz.2⟩
end Go.Proofs.YtoepemlnlpamlaaGreat
namespace Go.Proofs.YtoepemlnlpamlaaGreat
section
variable {P:Program}{ops:Array Oper}{Q:Exit->Act->World->Prop}{md:Region.Mode}{S:World->Prop}{ex:List Nat}
def yE(P:Program)(md:Region.Mode)(ops:Array Oper)(Q:Exit->Act->World->Prop)(S:World->Prop)(ex:List Nat):Nat->Array Bool->Act->World->Prop
 | 0,listed,a,w=>Region.ready md ops listed=[]/\Q .normal a w
 | fuel+1,listed,a,w=>
  (Region.ready md ops listed=[]->Q .normal a w) /\
  ∀i∈Region.ready md ops listed,wpOp P ops Q i (fun a' w'=>(i ∉ ex->S w')/\yE P md ops Q S ex fuel (listed.setIfInBounds i true) a' w') a w
theorem wD:∀(fuel:Nat) (listed:Array Bool) (a:Act) (w:World),yE P md ops Q S ex fuel listed a w->wpAny P md ops Q fuel listed a w
 | 0,_,_,_,h=>h
 | fuel+1,_,_,_,h=>⟨h.1,fun i hi=>wpOp_mono (fun a' w' h'=>wD fuel _ a' w' h'.2) (h.2 i hi)⟩
theorem wE{i:Nat}{oi:Oper}{v:Value}(hi:ops[i]? =some oi)(hsel:∀(j:Nat) (o:Oper) cs b,ops[j]? =some o->o.op ≠ .select cs b)
 (hex:∀j∈ex,Region.waitsFor md ops j i=true)
 (hQ:∀c a w,Q (.panic c) (a.put oi.dst v) w->Q (.panic c) a w):
 ∀(fuel:Nat) (listed:Array Bool) (a:Act) (w:World),
  (∀j oj,ops[j]? =some oj->j≠i->listed.getD j true=false->(∀e∈oj.after,Region.binds md e=true->e.on≠i)->oi.apart ops oj=true) ->
  i∈Region.ready md ops listed->YieldsIf P ops S oi v a->S w ->
  yE P md ops Q S ex fuel (listed.setIfInBounds i true) (a.put oi.dst v) w->yE P md ops Q S ex (fuel+1) listed a w:=by
 intro fuel
 induction fuel with
 | zero=>
  intro listed a w _ hr hy hS H;refine⟨fun h=>(by rw[h]at hr;cases hr),fun j hj=>?_⟩;by_cases hji:j=i
  ·subst hji;exact hy.wpOp hi hS ⟨fun _=>hS,H⟩
  ·have:=ready_mono hj hji
   rw[H.1]at this
   cases this
 | succ fuel ih=>
  intro listed a w hfree hr hy hS H;refine⟨fun h=>(by rw[h]at hr;cases hr),fun j hj=>?_⟩;by_cases hji:j=i
  ·subst hji;exact hy.wpOp hi hS ⟨fun _=>hS,H⟩
  ·have h1:=H.2 j (ready_mono hj hji)
   obtain⟨hjun,oj,hoj,hall⟩:=mem_ready.1 hj
   have hnot:∀e∈oj.after,Region.binds md e=true->e.on≠i:=fun e he hb heq=>by
    have h1:=hall e he hb;have h0:=(mem_ready.1 hr).1;rw[heq]at h1;rcases Nat.lt_or_ge i listed.size with h'|h'
    ·simp[h']at h0 h1;rw[h0]at h1;cases h1
    ·simp[Array.getElem?_eq_none h']at h1
   have hjex:j ∉ ex:=fun hm=>by
    obtain⟨oj',hj',e,he,hb,hon⟩:=Region.waitsFor_spec (hex j hm);rw[hoj]at hj';cases hj'
    exact hnot e he hb hon
   have h2:=wpOp_putIf hoj (hfree j oj hoj hji hjun hnot) (fun cs b=>hsel i oi cs b hi) (fun cs b=>hsel j oj cs b hoj) hQ hy h1
   have hfree':∀k ok,ops[k]? =some ok->k≠i->(listed.setIfInBounds j true).getD k true=false ->
    (∀e∈ok.after,Region.binds md e=true->e.on≠i)->oi.apart ops ok=true:=fun k ok hk hki hun hno=>by
    refine hfree k ok hk hki ?_ hno;by_cases hjk:j=k
    ·subst hjk;exact hjun
    ·rw[getD_set_ne true hjk]at hun;exact hun
   refine wpOp_mono (fun a' w' h3=>⟨h3.2.1,ih (listed.setIfInBounds j true) a' w' hfree' (ready_mono hr (Ne.symm hji)) h3.1 (h3.2.1 hjex) ?_⟩) h2;rw[Array.setIfInBounds_comm _ _ hji];exact h3.2.2
def vZ(P:Program)(ops:Array Oper)(Q:Exit->Act->World->Prop)(S:World->Prop)(ex:List Nat):Nat->List Bool->List Oper->Act->World->Prop
 | _,_,[],a,w=>Q .normal a w
 | _,[],_::_,_,_=>False
 | k,true::ss,o::rest,a,w=> ∃v,YieldsIf P ops S o v a/\S w/\vZ P ops Q S ex (k+1) ss rest (a.put o.dst v) w
 | k,false::ss,o::rest,a,w=>o.guard=none/\o.wp P a w (fun a' w'=>(ex.contains k=false->S w')/\vZ P ops Q S ex (k+1) ss rest a' w') Q
def oq(md:Region.Mode)(ops:Array Oper)(ex:List Nat):Nat->List Bool->Array Bool->Bool
 | _,[],listed=>(Region.ready md ops listed).isEmpty
 | k,true::ss,listed=>Region.free md ops listed k&&(Region.ready md ops listed).contains k&&ex.all (fun j=>Region.waitsFor md ops j k)&&oq md ops ex (k+1) ss (listed.setIfInBounds k true)
 | k,false::ss,listed=>(Region.ready md ops listed==[k])&&oq md ops ex (k+1) ss (listed.setIfInBounds k true)
theorem Pb(hs:Region.noSelect ops=true)(hQ:∀c a b w,Q (.panic c) a w->Q (.panic c) b w):∀(l:List Oper) (ss:List Bool) (k:Nat) (listed:Array Bool) (a:Act) (w:World),(∀j,l[j]? =ops[k+j]?)->ss.length=l.length ->
 oq md ops ex k ss listed=true->vZ P ops Q S ex k ss l a w->yE P md ops Q S ex l.length listed a w:=by
 intro l
 induction l with
 | nil=>
  intro ss k listed a w hl hss hB h;have:ss=[]:=List.eq_nil_of_length_eq_zero hss;subst this;exact⟨by simpa [oq] using hB,by simpa [vZ] using h⟩
 | cons o rest ih=>
  intro ss k listed a w hl hss hB h;have hok:ops[k]? =some o:=by have:=hl 0;simpa using this.symm
  have hl':∀j,rest[j]? =ops[k+1+j]? :=fun j=>by
   have:=hl (j+1);rw[abM]at this;rw[this,Nat.add_assoc,Nat.add_comm 1 j]
  cases ss with
  | nil=>simp at hss
  | cons s ss=>
   have QO:ss.length=rest.length:=by simpa using hss
   cases s with
   | true=>
    simp only[oq,abG]at hB;obtain⟨⟨⟨h1,h2⟩,h3⟩,h4⟩:=hB;obtain⟨v,hy,hS,h5⟩:=h;refine wE hok (Region.noSelect_spec hs) (fun j hj=>?_) (fun c a w hq=>hQ c _ _ w hq) rest.length listed a w (Region.free_spec hok h1) (by simpa using h2) hy hS (ih ss (k+1) _ _ w hl' QO h4 h5);exact List.all_eq_true.1 h3 j hj
   | false=>
    simp only[oq,abG,beq_iff_eq]at hB;obtain⟨h1,h2⟩:=hB;obtain⟨hg,h5⟩:=h;refine⟨fun h0=>(by rw[h0]at h1;cases h1),fun i hi=>?_⟩;rw[h1]at hi;simp at hi;subst hi;have hw:Region.wanted o (yielded ops a.tmps)=true:=by simp[Region.wanted,hg]
    unfold wpOp;simp only[hok,hw,if_true];refine .inl (Oper.wp_mono (fun a' w' h6=>⟨fun hn=>h6.1 (by simpa using hn),ih ss (i+1) _ a' w' hl' QO h2 h6.2⟩) h5)
theorem dY{id:Nat}{a:Act}{w:World}{l:List Oper}(S:World->Prop)(ex:List Nat)(ss:List Bool)(hm:P.follows .mixedOrders=true)(hs:Region.noSelect l.toArray=true)
 (hl:ss.length=l.length) (hB:oq .any l.toArray ex 0 ss (Array.replicate l.length false)=true) (h:vZ P l.toArray (NoPanic Q) S ex 0 ss l a w.drew):(Code.region id l.toArray true).wp P Q a w:=by
 refine wp_region_noPanic (wp_region_any hm (wD (S:=S) (ex:=ex) _ _ _ _ ?_));have:=Pb (P:=P) (S:=S) (md:=.any) hs (Q:=NoPanic Q) (fun c a b w hq=>(hq:False).elim) l ss 0 (Array.replicate l.length false) a w.drew (fun j=>by simp) hl hB h;simpa using this
theorem iT{k:Nat}{ss:List Bool}{a:Act}{w:World}(h:Q .normal a w):vZ P ops (NoPanic Q) S ex k ss [] a w:=by
 cases ss<;>exact h
theorem gP{k:Nat}{ss:List Bool}{o:Oper}{rest:List Oper}{a:Act}{w:World}{v:Value}(hg:o.guard=none)(hS:S w)(hy:∀w',S w'->(execOp a.eval o).run P w'= .ok (.value v) w')
 (h:vZ P ops Q S ex (k+1) ss rest (a.put o.dst v) w):vZ P ops Q S ex k (true::ss) (o::rest) a w:=
 ⟨v,.inl ⟨by simp[Region.wanted,hg],hy⟩,hS,h⟩
theorem gH{k:Nat}{ss:List Bool}{o:Oper}{rest:List Oper}{a:Act}{w w':World}{v:Value}(hg:o.guard=none)(hr:(execOp a.eval o).run P w= .ok (.value v) w')(hS:ex.contains k=false->S w')
 (h:vZ P ops Q S ex (k+1) ss rest (a.put o.dst v) w'):vZ P ops Q S ex k (false::ss) (o::rest) a w:=
 ⟨hg,by unfold Oper.wp;rw[hr];exact⟨hS,h⟩⟩
theorem gZ{k:Nat}{ss:List Bool}{o:Oper}{rest:List Oper}{a:Act}{w w':World}(hg:o.guard=none)(hr:(execOp a.eval o).run P w= .ok .skip w')(hS:ex.contains k=false->S w')
 (h:vZ P ops Q S ex (k+1) ss rest (a.put o.dst undef) w'):vZ P ops Q S ex k (false::ss) (o::rest) a w:=
 ⟨hg,by unfold Oper.wp;rw[hr];exact⟨hS,h⟩⟩
theorem r9{k:Nat}{ss:List Bool}{o:Oper}{rest:List Oper}{a:Act}{w:World}(hg:o.guard=none)
 (h:o.wp P a w (fun a' w'=>(ex.contains k=false->S w')/\vZ P ops Q S ex (k+1) ss rest a' w') Q):vZ P ops Q S ex k (false::ss) (o::rest) a w:=⟨hg,h⟩
end
end Go.Proofs.YtoepemlnlpamlaaGreat
