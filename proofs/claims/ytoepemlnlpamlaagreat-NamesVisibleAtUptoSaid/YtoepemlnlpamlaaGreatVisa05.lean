/- The law NamesVisibleAt holds where what it reads is of bulk at most 1048576: it returns true, and its arguments read as before. Part 5: ParW Scan Num Par1 Par2 Held. -/
import Derived.BigRegion
import Derived.RegionTactic
import Derived.ChangeAlike
import Derived.IntWalk
import Derived.Deep.RegionHeld3
import Derived.StillTail
import Derived.WalkKit
import Derived.Test.YtoepemlnlpamlaaGreatVisa03
import Derived.Test.YtoepemlnlpamlaaGreatVisa04
set_option maxRecDepth 100000
set_option maxHeartbeats 4000000
namespace Go.Proofs.YtoepemlnlpamlaaGreat
open Go.RowKit
def jY(t:kD):List Value:=[.int .i64 (t.kind:Int),.int .i64 (t.from_:Int),.int .i64 (t.at_:Int),.int .i64 (t.end_:Int)]
def bO(d:Dg):List Value:=[.int .i64 d.code,.int .i64 d.at_,.int .i64 d.end_,.string d.text,.slice none 0 0]
def vT(l:List kD)(p:PS):Prop:=(p.ds.Pairwise fun a b=>a.at_<b.at_)/\∀d∈p.ds,0<=d.at_/\d.at_<=((iA l p.k).at_:Int)
theorem Rn:∀(ds:List Dg) (lo A:Int),lo<=A+1->(ds.Pairwise fun a b=>a.at_<b.at_)->(∀d∈ds,lo<=d.at_/\d.at_<=A)->(ds.length:Int)<=A - lo+1
 | [],lo,A,h0,_,_=>by simp;omega
 | d::ds,lo,A,_,hp,hb=>by
  rw[List.pairwise_cons]at hp;have C:=hb d (by simp);have:=Rn ds (d.at_+1) A (by omega) hp.2 (fun x B=>⟨by have:=hp.1 x B;omega,(hb x (by simp[B])).2⟩);simp only[aao];omega
theorem vT.len{l:List kD}{p:PS}(h:vT l p){m:Nat}(B:(iA l p.k).at_<=m):p.ds.length<=m+1:=by
 have:=Rn p.ds 0 (m:Int) (by omega) h.1 (fun d A=>⟨(h.2 d A).1,by have:=(h.2 d A).2;omega⟩);omega
theorem vT.rep{l:List kD}{p:PS}(h:vT l p)(c:Int)(t:bB):vT l (iI l p c t):=by
 have C:(∀d∈p.ds,d.at_<((iA l p.k).at_:Int))->vT l { p with ds:=p.ds++[⟨c,(iA l p.k).at_,(iA l p.k).end_,bf t⟩] }:=fun E=>by
  refine⟨?_,fun d A=>?_⟩
  ·rw[List.pairwise_append]
   exact⟨h.1,List.pairwise_singleton _ _,fun a I b H=>by simp at H;subst H;exact E a I⟩
  ·simp only[List.mem_append,List.mem_singleton]at A
   rcases A with A|rfl
   ·exact h.2 d A
   ·exact⟨by simp only;omega,by simp only;omega⟩
 unfold iI;split
 ·rename_i d A
  split
  ·exact h
  ·rename_i hne
   refine C fun x B=>?_
   have D:=List.mem_of_getLast? A
   have J:x.at_<=d.at_:=by
    rw[List.getLast?_eq_some_iff]at A;obtain⟨K,G⟩:=A;have F:=h.1;rw[G]at F B;rw[List.pairwise_append]at F;simp only[List.mem_append,List.mem_singleton]at B;rcases B with B|rfl
    ·have:=F.2.2 x B d (by simp);omega
    ·omega
   have:=(h.2 d D).2;omega
 ·rename_i hn
  refine C fun x B=>?_
  rw[List.getLast?_eq_none_iff]at hn;rw[hn]at B;cases B
theorem vT.read{l:List kD}{p:PS}(h:vT l p)(B:(iA l p.k).at_<=(iA l (p.k+1)).at_):vT l (aB l p):=
 ⟨h.1,fun d A=>⟨(h.2 d A).1,by have:=(h.2 d A).2;show d.at_<=((iA l (p.k+1)).at_:Int);omega⟩⟩
structure PE where
 gp:Nat
 lo:Nat
 s:ByteArray
 l:List kD
 A:Option Addr
 n:Nat
 c:Nat
def PE.bs(E:PE):bB:=E.s.data.toList
structure PE.Ok (E:PE):Prop where
 len:E.l.length=E.n
 most:E.n<=5000
 size:E.s.size<=4096
 tok:∀t∈E.l,t.from_<=t.at_/\t.at_<=t.end_/\t.end_<=E.s.size/\t.kind<=5
 ends:oF E.l
 empty:qY E.bs E.l
 mono:∀k,k+1<E.l.length->(iA E.l k).at_<=(iA E.l (k+1)).at_
 low:E.lo<=E.gp
structure PV where
 st:PS
 lv:Value
structure PW (w:World) (E:PE) (v:PV):Prop where
 blk:aj w E.gp 130 #[.string E.s,.slice E.A E.n E.c,.int .i64 (v.st.k:Int),.int .i64 (v.st.last:Int),v.lv]
 own:aK w E.lo 78 5 v.lv v.st.ds.length (v.st.ds.flatMap bO)
 toks:aK w E.lo 186 4 (.slice E.A E.n E.c) E.n (E.l.flatMap jY)
 at_:v.st.k<E.n
 good:vT E.l v.st
 last:v.st.last<=4096
structure PM (E:PE) (w:World) (v:PV) (w':World) (v':PV):Prop where
 since:aF (fun g=>g=E.gp\/v.lv.ownBlock=some g) w w'
 fresh:v'.lv.ownBlock=v.lv.ownBlock\/∀g,v'.lv.ownBlock=some g->w.heap.size<=g
theorem PM.trans{E:PE}{w F G:World}{v C D:PV}(h:PM E w v F C)(k:PM E F C G D):PM E w v G D:=by
 refine⟨h.since.step k.since (fun g A=>?_),?_⟩
 ·rcases A with A|A
  ·exact .inl (.inl A)
  ·rcases h.fresh with B|B
   ·exact .inl (.inr (B ▸ A))
   ·exact .inr (B g A)
 ·rcases k.fresh with B|B
  ·rw[B]
   exact h.fresh
  ·exact .inr fun g A=>aac h.since.size (B g A)
theorem PM.of_below{E:PE}{w w':World}{v:PV}(A:Below w.heap.size w w'):PM E w v w' v:=⟨(aF.refl _ w).below A,.inl rfl⟩
theorem PW.below{w w':World}{E:PE}{v:PV}(h:PW w E v)(A:Below w.heap.size w w'):PW w' E v:=
 ⟨h.blk.below A h.blk.lt,h.own.below A (fun g B=>(h.own.lt g B).2),h.toks.below A (fun g B=>(h.toks.lt g B).2),h.at_,h.good,h.last⟩
theorem PM.dX{P:Nat->Prop}{E:PE}{w w':World}{v G:PV}(F:PM E w v w' G)(h:PW w E v):bZ P w w':=fun g H _ B=>by
 refine F.since.block g (aae.1 B).1 ?_;rintro(rfl|D)
 ·have:=h.blk
  unfold aj at this;rw[B]at this;simp at this
 ·obtain⟨C,A⟩:=h.own.typed D
  rw[B]at A;simp at A
theorem PM.below{E:PE}{w w':World}{v F:PV}(D:PM E w v w' F)(h:PW w E v){B:Nat}(G:B<=E.lo)(C:E.lo<=E.gp):Below B w w':=
 D.since.toBelow (by have:=h.blk.lt;omega) (fun g A=>by
  rcases A with rfl|A
  ·omega
  ·have:=(h.own.lt g A).1;omega)
theorem PW.tok{w:World}{E:PE}{v:PV}(h:PW w E v)(F:E.Ok){k:Nat}(J:k<E.n):∃b B,E.A=some ⟨b,B,none⟩/\b<w.heap.size /\
 w.cell? ⟨b,B+k*4,none⟩=some (.int .i64 ((iA E.l k).kind:Int))/\w.cell? ⟨b,B+k*4+1,none⟩=some (.int .i64 ((iA E.l k).from_:Int)) /\
 w.cell? ⟨b,B+k*4+2,none⟩=some (.int .i64 ((iA E.l k).at_:Int))/\w.cell? ⟨b,B+k*4+3,none⟩=some (.int .i64 ((iA E.l k).end_:Int)):=by
 have K:=h.toks.rowAt (cells:=jY) (l:=E.l) rfl rfl (by intro c _;rfl) F.len;have D:k<E.l.length:=by rw[F.len];exact J
 have I:E.l[k]? =some (iA E.l k):=by
  unfold iA;rw[List.getD_eq_getElem?_getD,aaf D];rfl
 obtain⟨b,B,G,H,C⟩:=K k _ I;exact⟨b,B,G,H,C 0 _ rfl,C 1 _ rfl,C 2 _ rfl,C 3 _ rfl⟩
theorem PE.Ok.get{E:PE}(A:E.Ok)(k:Nat):(iA E.l k).at_<=(iA E.l k).end_/\(iA E.l k).end_<=E.s.size/\(iA E.l k).kind<=5:=by
 unfold iA;rw[List.getD_eq_getElem?_getD]
 cases B:E.l[k]? with
 | none=>simp[tokD]
 | some t=>
  have:=A.tok t (aan B);exact⟨this.2.1,this.2.2.1,this.2.2.2⟩
theorem QA:(Tryz.prog.info? 186).map (fun i=>(i.zero,i.size,i.bytes))=some (some (.agg #[.int .i64 0,.int .i64 0,.int .i64 0,.int .i64 0]),4,32):=by kernel_rfl
theorem sG(w:World)(g:Nat)(a b c d:Value)(B:w.cell? ⟨g,0,none⟩=some a)(C:w.cell? ⟨g,1,none⟩=some b)(D:w.cell? ⟨g,2,none⟩=some c)(E:w.cell? ⟨g,3,none⟩=some d):
 ∀j v,[a,b,c,d][j]? =some v->w.cell? ((⟨g,0,none⟩:Addr).add j)=some v:=by
 intro j v A
 match j,A with
 | 0,A=>simp at A;subst A;exact B
 | 1,A=>simp at A;subst A;exact C
 | 2,A=>simp at A;subst A;exact D
 | 3,A=>simp at A;subst A;exact E
 | j+4,A=>simp at A
def ScanRes(w:World)(l:List kD)(e:Ending)(w':World):Prop:=
 ∃v,e= .returned (.tuple #[v,.int .i64 0])/\aK w' w.heap.size 186 4 v l.length (l.flatMap jY)/\Below w.heap.size w w'
theorem Tz(s:ByteArray)(w:World)(hs:s.size<=4096):Calls Tryz.prog 123 #[.string s] w (ScanRes w (rH s.data.toList)):=by
 obtain⟨i0,Z,u,t,r⟩:=info_parts QA;have hgt:¬(4096:Int)<s.size:=by omega
 go_in
 go_wp2_with fail
 go_loopg [4,5] (s.size) (fun gk s4 s5 wr=> ∃(f k:Nat) (B:List kD),k+gk=s.size/\s5= .int .i64 k/\rH s.data.toList=B++uR s.data.toList f k/\s.size<f+k/\aK wr w.heap.size 186 4 s4 B.length (B.flatMap jY)/\B.length<=k/\Below w.heap.size w wr)
 case atStart=>exact⟨s.size+1,0,[],by omega,rfl,by rw[rH,bQ];rfl,by omega,aK.block (n:=0) (cur:=#[]) (aab _) (aj.new w 186 #[]) (by simp[maxLen]) rfl,aab _,by(repeat (first|exact Below.refl _ _|assumption|refine Below.trans ?_ (Below.mono (by assumption) (by first|omega|(simp;done)|(simp;omega)))|refine Below.alloc ?_ (by first|omega|(simp;done)|(simp;omega)) _|refine Below.setCell ?_ (by first|omega|(simp;done)|(simp;omega)) _|refine Below.drew ?_|refine aT ?_ _))⟩
 case round=>
  obtain⟨f,k,B,hk,rfl,v,hf,b,hpl,c⟩:=hrel;have z:k<=s.size:=by omega
  obtain⟨f,rfl⟩:∃g,f=g+1:=⟨f - 1,by omega⟩
  obtain⟨A,N⟩:∃x,kG s.data.toList (s.size+1) k=x:=⟨_,rfl⟩
  have J:=Ex (s:=s.data.toList) (s.size+1) k (by rw[bQ];exact z) (by rw[bQ];omega);rw[N,bQ]at J;obtain⟨hle,hle2,L⟩:=J;have I:∀w:World,Calls Tryz.prog 179 #[.string s,.int .i64 (k:Int)] w fun e w'=>e= .returned (.int .i64 (A:Int))/\w=w':=fun w=>by rw[<- N];exact skip_any s k w z hs
  have K:uR s.data.toList (f+1) k=if s.size<=A then [⟨5,k,A,A⟩] else⟨(gM s.data.toList A).1,k,A,(gM s.data.toList A).2⟩::uR s.data.toList f (gM s.data.toList A).2:=by
   rw[uR,bQ,N]
  have HK:=kH hk;have W:=kH v;have V:=kH b;have E:=kH I;have CR:=kH K;have F:=kH L;obtain⟨n,hn⟩:∃x,B.length=x:=⟨_,rfl⟩
  obtain⟨A4,c4,hv4,-,-⟩:=b.shape;subst hv4;rw[hn]at V hpl⊢;have l:=kH hn;clear hk v b I K L N hn;have Y:=c.size;by_cases O:A<s.size
  ·have hne:((A:Int)==s.size)=false:=by simp;omega
   have m:=CY (s:=s.data.toList) (a:=A) (by rw[bQ];exact O) (F.out O).1 (F.out O).2;rw[bQ]at m;have D:uR s.data.toList (f+1) k=⟨(gM s.data.toList A).1,k,A,(gM s.data.toList A).2⟩::uR s.data.toList f (gM s.data.toList A).2:=by rw[CR.out,if_neg (by omega)]
   have U:=fun w=>Om s A w O hs
   obtain⟨⟨tk,q⟩,j⟩:∃x,gM s.data.toList A=x:=⟨_,rfl⟩
   rw[j]at m D;simp only[j]at U;simp only at m D;obtain⟨ht1,ht2,ht3⟩:=m;have R:=kH D;have zG:=kH U;clear D U j;go_wp2_with fail
   refine(E.out _).mono ?_;rintro e w' ⟨rfl,rfl⟩;go_wp2_with fail
   refine(zG.out _).mono ?_;rintro e w2 ⟨rfl,T⟩;have hz2':=T.size;have H:=V.out.below T (fun g M=>(V.out.lt g M).2);have r9:=kH H;clear H;go_wp2_with (at_builtin;go_must (refine di _ rfl (.tmp 33) (.tmp 39) _ rfl w.heap.size 186 i0 _ 4 32 Tryz.underlying128 Z u t r rfl (.slice A4 n c4) n (B.flatMap jY) rfl (r9.out.alloc _) ⟨w2.heap.size,0,none⟩ 1 1 (jY ⟨tk,k,A,q⟩) rfl rfl (sG _ _ _ _ _ _ (by go_simp) (by go_simp) (by go_simp) (by go_simp)) (by simp[jY,Value.oneCell']) (by simp only[maxLen];omega) (by omega) (by simp;omega) ?_);intro v5 w5 C d X)
   have G:=fun g M=>(r9.out.lt g M).1
   go_roundg (s.size - q)
   case measure=>have:=HK.out;omega
   case rel=>
    refine⟨f,q,B++[⟨tk,k,A,q⟩],by omega,rfl,?_,by omega,?_,by simp[l.out];omega,?_⟩
    ·rw[W.out,R.out,List.append_assoc]
     rfl
    ·rw[aam,l.out,List.flatMap_append]
     simpa using C
    ·exact c.trans ((((aF.refl (fun g=>w.heap.size<=g) wr).below T).alloc (.cells #[.int .i64 (tk:Int),.int .i64 (k:Int),.int .i64 (A:Int),.int .i64 (q:Int)] 186) |>.grown d (fun g M=>.inl (G g M))).toBelow Y (fun g h=>h))
  ·have y:A=s.size:=by omega
   have D:rH s.data.toList=B++[⟨5,k,s.size,s.size⟩]:=by rw[W.out,CR.out,if_pos (by omega),y]
   have R:=kH D;clear D;subst y;have heq:((s.size:Int)==s.size)=true:=by simp
   go_wp2_with fail
   refine(E.out _).mono ?_;rintro e w' ⟨rfl,rfl⟩;go_wp2_with (at_builtin;go_must (refine di _ rfl (.tmp 20) (.tmp 25) _ rfl w.heap.size 186 i0 _ 4 32 Tryz.underlying128 Z u t r rfl (.slice A4 n c4) n (B.flatMap jY) rfl (V.out.alloc _) ⟨wr.heap.size,0,none⟩ 1 1 (jY ⟨5,k,s.size,s.size⟩) rfl rfl (sG _ _ _ _ _ _ (by go_simp) (by go_simp) (by go_simp) (by go_simp)) (by simp[jY,Value.oneCell']) (by simp only[maxLen];omega) (by omega) (by simp;omega) ?_);intro v5 w5 C d X)
   have G:=fun g M=>(V.out.lt g M).1
   go_ret2
   refine⟨v5,rfl,?_,?_⟩
   ·rw[R.out,aam,l.out,List.flatMap_append]
    simpa using C
   ·exact c.trans ((((aF.refl (fun g=>w.heap.size<=g) wr).alloc (.cells #[.int .i64 5,.int .i64 (k:Int),.int .i64 (s.size:Int),.int .i64 (s.size:Int)] 186)).grown d (fun g M=>.inl (G g M))).toBelow Y (fun g h=>h))
theorem Pf(s:ByteArray)(i:Nat)(h:i<s.size):s.data.toList.drop i=(s[i]'h)::s.data.toList.drop (i+1):=by
 rw[List.drop_eq_getElem_cons (by simpa using h)];rfl
theorem Nj(s:ByteArray)(w:World)(j:s.size<=4096):
 Calls Tryz.prog 132 #[.string s] w fun e w'=>e= .returned (.tuple #[.int .i64 (((fV s.data.toList).getD 0:Nat):Int),.bool (fV s.data.toList).isSome])/\w=w':=by
 by_cases Y:s.size<1
 ·have I:(s.size:Int)<1:=by omega
  have A:fV s.data.toList=none:=by unfold fV;rw[bQ,if_pos (.inl Y)]
  rw[A];clear A;go_in
  go_wp2_with fail
  go_ret2
  exact⟨rfl,rfl⟩
 have I:¬(s.size:Int)<1:=by omega
 by_cases Z:9<s.size
 ·have J:(9:Int)<s.size:=by omega
  have A:fV s.data.toList=none:=by unfold fV;rw[bQ,if_pos (.inr Z)]
  rw[A];clear A;go_in
  go_wp2_with fail
  go_ret2
  exact⟨rfl,rfl⟩
 have J:¬(9:Int)<s.size:=by omega
 have W:fV s.data.toList=yG s.data.toList 0:=by unfold fV;rw[bQ,if_neg (by omega)]
 rw[W];clear W;go_in
 go_wp2_with fail
 go_loopg [4,5] (s.size) (fun gk q m wr=> ∃i n:Nat,i+gk=s.size/\m= .int .i64 i/\q= .int .i64 n/\yG s.data.toList 0=yG (s.data.toList.drop i) n/\n<10 ^ i/\w=wr)
 case atStart=>exact⟨0,0,by omega,rfl,rfl,rfl,by decide,rfl⟩
 case round=>
  obtain⟨i,n,T,rfl,rfl,G,U,rfl⟩:=hrel;have u:i<=s.size:=by omega
  have N:=kH T;have L:=kH G;have O:=kH U;clear T G U;by_cases B:i<s.size
  ·have r:n<=100000000:=by
    have k:10 ^ i<=10 ^ 8:=Nat.pow_le_pow_right (by omega) (by omega);have:=O.out;omega
   have t:(i:Int)<s.size:=by omega
   have C:yG (s.data.toList.drop i) n=if fT (s[i]'B).toNat then yG (s.data.toList.drop (i+1)) (10*n+((s[i]'B).toNat - 48)) else none:=by
    rw[Pf s i B,yG]
   obtain⟨c,z⟩:∃c,(s[i]'B).toNat=c:=⟨_,rfl⟩
   rw[z]at C;obtain⟨X,D⟩:∃x,fT c=x:=⟨_,rfl⟩
   rw[D]at C;have M:=kH D;have F:=kH C;clear C D;cases X
   ·have A:yG s.data.toList 0=none:=by rw[L.out,F.out];rfl
    have H:=kH A;clear A;go_wp2_with fail
    refine(nG c _).mono ?_;rintro e w' ⟨rfl,rfl⟩;rw[M.out];go_wp2_with fail
    go_ret2
    exact⟨by rw[H.out];rfl,rfl⟩
   ·have E:=M.out
    unfold fT at E;simp at E;obtain⟨y,v⟩:=E;have R:(48:Int)<=(c:Int):=by omega
    have l:(c:Int)<=57:=by omega
    have V:(n:Int)<=100000000:=by omega
    go_wp2_with fail
    refine(nG c _).mono ?_;rintro e w' ⟨rfl,rfl⟩;rw[M.out];go_wp2_with fail
    go_roundg (gk - 1)
    case measure=>have:=N.out;omega
    case rel=>
     refine⟨i+1,10*n+(c - 48),by have:=N.out;omega,by go_num,congrArg (Value.int .i64) (by omega),?_,?_,rfl⟩
     ·rw[L.out,F.out];rfl
     ·have:=O.out
      rw[Nat.pow_succ];omega
  ·have K:i=s.size:=by omega
   have A:yG s.data.toList 0=some n:=by
    rw[L.out,List.drop_of_length_le (by rw[bQ];omega)];rfl
   have H:=kH A;clear A;subst K;go_wp2_with fail
   go_ret2
   exact⟨by rw[H.out];rfl,rfl⟩
theorem mkS_data(x:ByteArray):bf x.data.toList=x:=rfl
theorem Ti{t:bB}{c:UInt8}{r:bB}(h:t=48::c::r):gH t=gH (c::r):=by rw[h];rfl
theorem G9{t:bB}(h:t.length<=1\/bz t 0≠48):gH t=t:=by
 match t,h with
 | [],_=>rfl
 | [x],_=>unfold gH;split<;>rename_i h1<;>simp_all
 | x::c::r,h=>
  unfold gH;split
  ·rename_i h1
   simp[bz]at h;cases h1
   exact absurd rfl h
  ·rfl
theorem M3(s:ByteArray)(w:World)(W:s.size<=4096):
 Calls Tryz.prog 231 #[.string s] w fun e w'=>e= .returned (.string (bf (gH s.data.toList)))/\w=w':=by
 go_in
 go_wp2_with fail
 go_loopg [0] (s.size) (fun gk Y wr=> ∃t:ByteArray,t.size=gk/\Y= .string t/\gH s.data.toList=gH t.data.toList/\t.size<=4096/\w=wr)
 case atStart=>exact⟨s,rfl,rfl,rfl,W,rfl⟩
 case round=>
  obtain⟨t,T,rfl,R,X,rfl⟩:=hrel;have L:=kH T;have I:=kH R;clear T R;by_cases Z:1<t.size
  ·have J:(1:Int)<t.size:=by omega
   have H:0<t.size:=by omega
   obtain⟨c,O⟩:∃c,(t[0]'H).toNat=c:=⟨_,rfl⟩
   have E:bz t.data.toList 0=c:=by rw[<- nP t 0 H,O]
   by_cases D:c=48
   ·have C:t.data.toList=48::(t.extract 1 t.size).data.toList:=by
     rw[Ed];have N:=Pf t 0 H;rw[List.drop_zero]at N;rw[N];unfold uD;have U:(t[0]'H)=48:=UInt8.toNat_inj.1 (by rw[O,D];rfl);rw[U];simp;rw[List.take_of_length_le (by simp)]
    have F:(t.extract 1 t.size).size=t.size - 1:=by simp
    have A:gH t.data.toList=gH (t.extract 1 t.size).data.toList:=by
     obtain⟨x,r,G⟩:∃x r,(t.extract 1 t.size).data.toList=x::r:=by
      cases V:(t.extract 1 t.size).data.toList with
      | nil=>
       have:=congrArg List.length V;rw[bQ,F]at this;simp at this;omega
      | cons x r=>exact⟨x,r,rfl⟩
     rw[G];exact Ti (by rw[C,G])
    have K:((c:Int)==48)=true:=by simp;omega
    have B:=kH A;have M:=kH F;clear C A F D E;go_wp2_with fail
    go_roundg (gk - 1)
    case measure=>have:=L.out;omega
    case rel=>exact⟨t.extract 1 t.size,by rw[M.out,L.out],rfl,I.out.trans B.out,by rw[M.out];omega,rfl⟩
   ·have K:((c:Int)==48)=false:=by simp;omega
    have A:gH s.data.toList=t.data.toList:=I.out.trans (G9 (.inr (by rw[E];exact D)));have B:=kH A;clear A E D;go_wp2_with fail
    go_ret
    exact⟨by rw[B.out];rfl,rfl⟩
  ·have J:¬(1:Int)<t.size:=by omega
   have A:gH s.data.toList=t.data.toList:=I.out.trans (G9 (.inl (by rw[bQ];omega)));have B:=kH A;clear A;go_wp2_with fail
   go_ret
   exact⟨by rw[B.out];rfl,rfl⟩
theorem bstep{W0 a b:World}(h:Below W0.heap.size W0 a)(A:Below a.heap.size a b):Below W0.heap.size W0 b:=h.trans (A.mono h.size)
theorem ext_mk(s:ByteArray)(a b:Nat):s.extract a b=bf (uD s.data.toList a b):=by rw[<- Ed,mkS_data]
theorem Lh(s:ByteArray)(k f a e:Nat)(w:World)(D:a<=e)(E:e<=s.size):
 Calls Tryz.prog 133 #[.string s,.agg #[.int .i64 (k:Int),.int .i64 (f:Int),.int .i64 (a:Int),.int .i64 (e:Int)]] w fun x w'=>x= .returned (.string (bf (uD s.data.toList a e)))/\Below w.heap.size w w':=by
 have B:(a:Int)<=(e:Int):=by omega
 have C:(e:Int)<=s.size:=by omega
 have A:=ext_mk s a e;rw[<- A];clear A;go_in
 go_wp2_with fail
 go_ret
 exact⟨rfl,by(repeat (first|exact Below.refl _ _|assumption|refine Below.trans ?_ (Below.mono (by assumption) (by first|omega|(simp;done)|(simp;omega)))|refine Below.alloc ?_ (by first|omega|(simp;done)|(simp;omega)) _|refine Below.setCell ?_ (by first|omega|(simp;done)|(simp;omega)) _|refine Below.drew ?_|refine aT ?_ _))⟩
theorem PW.open{w:World}{E:PE}{v:PV}(h:PW w E v)(F:E.Ok):∃b B,E.A=some ⟨b,B,none⟩/\b<w.heap.size/\w.cell? ⟨E.gp,0,none⟩=some (.string E.s)/\w.cell? ⟨E.gp,1,none⟩=some (.slice (some ⟨b,B,none⟩) E.n E.c)/\w.cell? ⟨E.gp,2,none⟩=some (.int .i64 (v.st.k:Int))/\w.cell? ⟨E.gp,3,none⟩=some (.int .i64 (v.st.last:Int))/\w.cell? ⟨E.gp,4,none⟩=some v.lv /\
 w.cell? ⟨b,B+v.st.k*4,none⟩=some (.int .i64 ((iA E.l v.st.k).kind:Int))/\w.cell? ⟨b,B+v.st.k*4+1,none⟩=some (.int .i64 ((iA E.l v.st.k).from_:Int)) /\
 w.cell? ⟨b,B+v.st.k*4+2,none⟩=some (.int .i64 ((iA E.l v.st.k).at_:Int))/\w.cell? ⟨b,B+v.st.k*4+3,none⟩=some (.int .i64 ((iA E.l v.st.k).end_:Int)):=by
 obtain⟨b,B,D,G,H,I,J,K⟩:=h.tok F h.at_;have C:=h.blk.cell 1;rw[D]at C;exact⟨b,B,D,G,h.blk.cell 0,C,h.blk.cell 2,h.blk.cell 3,h.blk.cell 4,H,I,J,K⟩
theorem qb(E:PE)(H:E.Ok)(v:PV)(w:World)(h:PW w E v):
 Calls Tryz.prog 65 #[.pointer (some ⟨E.gp,0,none⟩)] w fun e w'=>e= .returned (.int .i64 (bM E.l v.st:Int))/\Below w.heap.size w w':=by
 obtain⟨b,I,-,K,-,F,G,-,-,J,-,-,-⟩:=h.open H;have C:(v.st.k:Int)<E.n:=by have:=h.at_;omega
 have A:=h.at_;obtain⟨n,D⟩:∃x,E.n=x:=⟨_,rfl⟩
 rw[D]at F C A;obtain⟨k,B⟩:∃x,v.st.k=x:=⟨_,rfl⟩
 unfold bM;rw[B]at G J C A⊢;clear D B;go_in
 go_wp2_with fail
 go_quiet (fail)
 go_wp2_with fail
 go_ret
 exact⟨rfl,by(repeat (first|exact Below.refl _ _|assumption|refine Below.trans ?_ (Below.mono (by assumption) (by first|omega|(simp;done)|(simp;omega)))|refine Below.alloc ?_ (by first|omega|(simp;done)|(simp;omega)) _|refine Below.setCell ?_ (by first|omega|(simp;done)|(simp;omega)) _|refine Below.drew ?_|refine aT ?_ _))⟩
theorem EE(E:PE)(V:E.Ok)(v:PV)(w:World)(h:PW w E v):
 Calls Tryz.prog 124 #[.pointer (some ⟨E.gp,0,none⟩)] w fun e w'=>e= .returned (.string (bf (bK E.bs E.l v.st.k)))/\Below w.heap.size w w':=by
 obtain⟨b,A,-,J,z,T,U,-,-,M,N,O,R⟩:=h.open V;have W:(v.st.k:Int)<E.n:=by have:=h.at_;omega
 have G:=h.at_;have K:=V.get v.st.k;unfold bK Cq PE.bs;obtain⟨n,X⟩:∃x,E.n=x:=⟨_,rfl⟩
 rw[X]at T W G;obtain⟨k,H⟩:∃x,v.st.k=x:=⟨_,rfl⟩
 rw[H]at U M N O R W G K⊢;obtain⟨C,I⟩:∃x,iA E.l k=x:=⟨_,rfl⟩
 rw[I]at M N O R K⊢;clear X H I;have D:=fun w=>Lh E.s C.kind C.from_ C.at_ C.end_ w K.1 K.2.1
 have Z:=kH D;clear D;have F:=h.blk.lt;have Y:∀w':World,Below w.heap.size w w'->(fun w'=>w'.cell? ⟨E.gp,0,none⟩=some (.string E.s)/\w'.cell? ⟨E.gp,1,none⟩=some (.slice (some ⟨b,A,none⟩) n E.c)/\w'.cell? ⟨E.gp,2,none⟩=some (.int .i64 (k:Int))/\w'.cell? ⟨b,A+k*4,none⟩=some (.int .i64 (C.kind:Int))/\w'.cell? ⟨b,A+k*4+1,none⟩=some (.int .i64 (C.from_:Int))/\w'.cell? ⟨b,A+k*4+2,none⟩=some (.int .i64 (C.at_:Int))/\w'.cell? ⟨b,A+k*4+3,none⟩=some (.int .i64 (C.end_:Int))) w':=fun w' B=>⟨(B.cell (p:=⟨E.gp,_,none⟩) F).trans z,(B.cell (p:=⟨E.gp,_,none⟩) F).trans T,(B.cell (p:=⟨E.gp,_,none⟩) F).trans U,(B.cell (p:=⟨b,_,none⟩) J).trans M,(B.cell (p:=⟨b,_,none⟩) J).trans N,(B.cell (p:=⟨b,_,none⟩) J).trans O,(B.cell (p:=⟨b,_,none⟩) J).trans R⟩
 have y:=kH Y;have t:Below w.heap.size w w.drew:=(Below.refl _ _).drew;clear Y;go_in
 go_wp2_with fail
 go_region_held3 (fun w'=>w'.cell? ⟨E.gp,0,none⟩=some (.string E.s)/\w'.cell? ⟨E.gp,1,none⟩=some (.slice (some ⟨b,A,none⟩) n E.c)/\w'.cell? ⟨E.gp,2,none⟩=some (.int .i64 (k:Int))/\w'.cell? ⟨b,A+k*4,none⟩=some (.int .i64 (C.kind:Int))/\w'.cell? ⟨b,A+k*4+1,none⟩=some (.int .i64 (C.from_:Int))/\w'.cell? ⟨b,A+k*4+2,none⟩=some (.int .i64 (C.at_:Int))/\w'.cell? ⟨b,A+k*4+3,none⟩=some (.int .i64 (C.end_:Int))) ((exact y.out _ (by assumption))) ((go_at_call 133;refine(Z.out _).mono ?_;rintro e r ⟨rfl,L⟩;have u:=bstep (W0:=w) (by assumption) L))
 go_wp2_with fail
 go_ret
 exact⟨rfl,by assumption⟩
theorem Yr(E:PE)(J:E.Ok)(v:PV)(w:World)(h:PW w E v):
 Calls Tryz.prog 137 #[.pointer (some ⟨E.gp,0,none⟩)] w fun e w'=>e= .returned (.string (bf (oL E.bs E.l v.st)))/\Below w.heap.size w w':=by
 obtain⟨b,A,d,R,f,U,V,-,-,-,-,-,-⟩:=h.open J;have H:=h.at_;have u:=J.most;by_cases B:v.st.k+1<E.n
 ·obtain⟨b',j,K,-,Y,Z,z,y⟩:=h.tok J B
  rw[d]at K;cases K
  have M:(v.st.k:Int)+1<E.n:=by omega
  have T:=J.get (v.st.k+1);unfold oL;rw[if_pos (by rw[J.len];exact B)];unfold bK Cq PE.bs;obtain⟨n,N⟩:∃x,E.n=x:=⟨_,rfl⟩
  rw[N]at U M H B u;obtain⟨k,F⟩:∃x,v.st.k=x:=⟨_,rfl⟩
  rw[F]at V Y Z z y M H T B⊢;obtain⟨D,O⟩:∃x,iA E.l (k+1)=x:=⟨_,rfl⟩
  rw[O]at Y Z z y T⊢;clear N F O;have G:=fun w=>Lh E.s D.kind D.from_ D.at_ D.end_ w T.1 T.2.1
  have g:=kH G;clear G;have I:=h.blk.lt;have q:∀w':World,Below w.heap.size w w'->(fun w'=>w'.cell? ⟨E.gp,0,none⟩=some (.string E.s)/\w'.cell? ⟨E.gp,1,none⟩=some (.slice (some ⟨b,A,none⟩) n E.c)/\w'.cell? ⟨E.gp,2,none⟩=some (.int .i64 (k:Int))/\w'.cell? ⟨b,A+(k+1)*4,none⟩=some (.int .i64 (D.kind:Int))/\w'.cell? ⟨b,A+(k+1)*4+1,none⟩=some (.int .i64 (D.from_:Int))/\w'.cell? ⟨b,A+(k+1)*4+2,none⟩=some (.int .i64 (D.at_:Int))/\w'.cell? ⟨b,A+(k+1)*4+3,none⟩=some (.int .i64 (D.end_:Int))) w':=fun w' C=>⟨(C.cell (p:=⟨E.gp,_,none⟩) I).trans f,(C.cell (p:=⟨E.gp,_,none⟩) I).trans U,(C.cell (p:=⟨E.gp,_,none⟩) I).trans V,(C.cell (p:=⟨b,_,none⟩) R).trans Y,(C.cell (p:=⟨b,_,none⟩) R).trans Z,(C.cell (p:=⟨b,_,none⟩) R).trans z,(C.cell (p:=⟨b,_,none⟩) R).trans y⟩
  have r:=kH q;have L:∀m,Below w.heap.size w ((w.drewN m).drew):=fun m=>(aT (Below.refl _ _) m).drew
  have t:=kH L;clear L;clear q;go_in
  go_wp2_with fail
  go_quiet (fail)
  go_wp2_with fail
  have X:IntKind.i64.wrap ((k:Int)+1)=(k:Int)+1:=IntWalk.i64_in _ (by omega);have hnn:(0:Int)<=(k:Int)+1:=by omega
  have htn:((k:Int)+1).toNat=k+1:=by omega
  go_region_held3 (fun w'=>w'.cell? ⟨E.gp,0,none⟩=some (.string E.s)/\w'.cell? ⟨E.gp,1,none⟩=some (.slice (some ⟨b,A,none⟩) n E.c)/\w'.cell? ⟨E.gp,2,none⟩=some (.int .i64 (k:Int))/\w'.cell? ⟨b,A+(k+1)*4,none⟩=some (.int .i64 (D.kind:Int))/\w'.cell? ⟨b,A+(k+1)*4+1,none⟩=some (.int .i64 (D.from_:Int))/\w'.cell? ⟨b,A+(k+1)*4+2,none⟩=some (.int .i64 (D.at_:Int))/\w'.cell? ⟨b,A+(k+1)*4+3,none⟩=some (.int .i64 (D.end_:Int))) ((first|exact r.out _ (by assumption)|exact r.out _ (t.out _))) ((go_at_call 133;refine(g.out _).mono ?_;rintro e w1 ⟨rfl,W⟩;have hB1:=bstep (W0:=w) (by first|assumption|exact t.out _) W))
  go_wp2_with fail
  go_ret
  exact⟨rfl,by assumption⟩
 ·have M:¬(v.st.k:Int)+1<E.n:=by omega
  unfold oL;rw[if_neg (by rw[J.len];exact B)];obtain⟨n,N⟩:∃x,E.n=x:=⟨_,rfl⟩
  rw[N]at U M H B u;obtain⟨k,F⟩:∃x,v.st.k=x:=⟨_,rfl⟩
  rw[F]at V M H B;clear N F;have X:IntKind.i64.wrap ((k:Int)+1)=(k:Int)+1:=IntWalk.i64_in _ (by omega);have HX:Hid (¬k+1<n):=kH B;clear B;go_in
  go_wp2_with fail
  go_quiet (fail)
  go_wp2_with fail
  go_ret
  exact⟨rfl,by(repeat (first|exact Below.refl _ _|assumption|refine Below.trans ?_ (Below.mono (by assumption) (by first|omega|(simp;done)|(simp;omega)))|refine Below.alloc ?_ (by first|omega|(simp;done)|(simp;omega)) _|refine Below.setCell ?_ (by first|omega|(simp;done)|(simp;omega)) _|refine Below.drew ?_|refine aT ?_ _))⟩
theorem zl(E:PE)(G:E.Ok)(v:PV)(x:bB)(w:World)(h:PW w E v):
 Calls Tryz.prog 66 #[.pointer (some ⟨E.gp,0,none⟩),.string (bf x)] w fun e w'=>e= .returned (.bool (bF E.bs E.l v.st x))/\Below w.heap.size w w':=by
 have C:=qb E G v w h;have D:=fun w' (R:PW w' E v)=>EE E G v w' R
 have J:=(G.get v.st.k).2.2;unfold bF bM at*;obtain⟨k,K⟩:∃x,(iA E.l v.st.k).kind=x:=⟨_,rfl⟩
 rw[K]at C J⊢;obtain⟨y,L⟩:∃y,bK E.bs E.l v.st.k=y:=⟨_,rfl⟩
 rw[L]at D⊢;have M:=kH C;have O:=kH D;clear K L C D;by_cases F:k=5
 ·have I:((k:Int) !=5)=false:=by simp;omega
  have A:(decide (k≠5)&&decide (y=x))=false:=by simp[F]
  rw[A];clear A F;go_in
  go_wp2_with fail
  refine M.out.mono ?_;rintro e N ⟨rfl,B⟩;go_wp2_with fail
  go_ret
  exact⟨rfl,B⟩
 ·have I:((k:Int) !=5)=true:=by simp;omega
  have A:(decide (k≠5)&&decide (y=x))=decide (y=x):=by simp[F]
  rw[A];clear A F;go_in
  go_wp2_with fail
  refine M.out.mono ?_;rintro e N ⟨rfl,B⟩;go_wp2_with fail
  refine(O.out N (h.below B)).mono ?_;rintro e T ⟨rfl,H⟩;go_wp2_with fail
  go_ret
  refine⟨bH ?_,B.trans (H.mono B.size)⟩;rw[Bool.eq_iff_iff];simp[bf]
theorem read_mem{E:PE}(B:E.Ok){v:PV}{w:World}(h:PW w E v)(H:bM E.l v.st≠5):
 PW ((w.setCell ⟨E.gp,3,none⟩ (.int .i64 ((iA E.l v.st.k).end_:Int))).setCell ⟨E.gp,2,none⟩ (.int .i64 ((v.st.k:Int)+1))).drew E ⟨aB E.l v.st,v.lv⟩ /\
 PM E w v ((w.setCell ⟨E.gp,3,none⟩ (.int .i64 ((iA E.l v.st.k).end_:Int))).setCell ⟨E.gp,2,none⟩ (.int .i64 ((v.st.k:Int)+1))).drew ⟨aB E.l v.st,v.lv⟩:=by
 have G:v.st.k<E.l.length:=by rw[B.len];exact h.at_
 have C:=B.ends _ G H;have D:v.lv.ownBlock≠some E.gp:=h.own.cB h.blk (by decide);have F:(Value.slice E.A E.n E.c).ownBlock≠some E.gp:=h.toks.cB h.blk (by decide);refine⟨⟨?_,(h.own.setCell D _).setCell D _,(h.toks.setCell F _).setCell F _,?_,h.good.read (B.mono _ C),?_⟩,⟨((aF.refl (fun g=>g=E.gp\/v.lv.ownBlock=some g) w).setCell (.inl (.inl rfl)) _).setCell (.inl (.inl rfl)) _ |>.drew,.inl rfl⟩⟩
 ·have:=((h.blk.gu 3 (.int .i64 ((iA E.l v.st.k).end_:Int))).gu 2 (.int .i64 ((v.st.k:Int)+1))).drew
  simpa [aB] using this
 ·show v.st.k+1<E.n
  rw[<- B.len];exact C
 ·have:=(B.get v.st.k).2.1
  have:=B.size;show(iA E.l v.st.k).end_<=4096;omega
theorem rf(E:PE)(I:E.Ok)(v:PV)(w:World)(h:PW w E v)(X:bM E.l v.st≠5):
 Calls Tryz.prog 70 #[.pointer (some ⟨E.gp,0,none⟩)] w fun e w'=>e= .returned (.string (bf (bK E.bs E.l v.st.k)))/\PW w' E ⟨aB E.l v.st,v.lv⟩/\PM E w v w' ⟨aB E.l v.st,v.lv⟩:=by
 have G:=EE E I v w h;have U:=kH G;have H:=kH h;clear G;go_in
 go_wp2_with fail
 refine U.out.mono ?_;rintro e r ⟨rfl,D⟩;have C:=H.out.below D;have T:=kH C;obtain⟨b,z,-,u,-,V,W,c3,-,-,-,-,R⟩:=C.open I;have F:=C.at_;have y:=I.most;have N:(v.st.k:Int)<E.n:=by omega
 have Y:=C.blk.frozen 2;have Z:=C.blk.frozen 3;have L:IntKind.i64.wrap ((v.st.k:Int)+1)=(v.st.k:Int)+1:=IntWalk.i64_in _ (by omega);obtain⟨n,O⟩:∃x,E.n=x:=⟨_,rfl⟩
 rw[O]at V N F;obtain⟨k,A⟩:∃x,v.st.k=x:=⟨_,rfl⟩
 rw[A]at W R N F L;obtain⟨t,B⟩:∃x,(iA E.l k).end_=x:=⟨_,rfl⟩
 rw[B]at R;have J:=kH A;have K:=kH B;clear O A B C h;go_wp2_with fail
 go_region
 go_wp2_with fail
 go_ret
 have M:=read_mem I T.out X;rw[J.out,K.out]at M;exact⟨rfl,M.1,(PM.of_below D).trans M.2⟩
end Go.Proofs.YtoepemlnlpamlaaGreat
namespace Go.Proofs.YtoepemlnlpamlaaGreat
section
variable {P:Program}{ops:Array Oper}{Q:Exit->Act->World->Prop}{md:Region.Mode}{S:World->Prop}{ex:List Nat}
def zf(P:Program)(md:Region.Mode)(ops:Array Oper)(Q:Exit->Act->World->Prop)(S:World->Prop)(ex:List Nat):Nat->Array Bool->Act->World->Prop
 | 0,listed,a,w=>Region.ready md ops listed=[]/\Q .normal a w
 | fuel+1,listed,a,w=>
  (Region.ready md ops listed=[]->Q .normal a w) /\
  ∀i∈Region.ready md ops listed,wpOp P ops Q i (fun a' w'=>(i ∉ ex->S w')/\zf P md ops Q S ex fuel (listed.setIfInBounds i true) a' w') a w
theorem xg:∀(fuel:Nat) (A:Array Bool) (a:Act) (w:World),zf P md ops Q S ex fuel A a w->wpAny P md ops Q fuel A a w
 | 0,_,_,_,h=>h
 | fuel+1,_,_,_,h=>⟨h.1,fun i D=>wpOp_mono (fun B w' C=>xg fuel _ B w' C.2) (h.2 i D)⟩
theorem xh{i:Nat}{L:Oper}{v:Value}(q:ops[i]? =some L)(I:∀(j:Nat) (o:Oper) N b,ops[j]? =some o->o.op ≠ .select N b)
 (r:∀j∈ex,Region.waitsFor md ops j i=true)
 (hQ:∀c a w,Q (.panic c) (a.put L.dst v) w->Q (.panic c) a w):
 ∀(fuel:Nat) (A:Array Bool) (a:Act) (w:World),
  (∀j M,ops[j]? =some M->j≠i->A.getD j true=false->(∀e∈M.after,Region.binds md e=true->e.on≠i)->L.apart ops M=true) ->
  i∈Region.ready md ops A->YieldsIf P ops S L v a->S w ->
  zf P md ops Q S ex fuel (A.setIfInBounds i true) (a.put L.dst v) w->zf P md ops Q S ex (fuel+1) A a w:=by
 intro fuel
 induction fuel with
 | zero=>
  intro A a w _ K z O H;refine⟨fun h=>(by rw[h]at K;cases K),fun j Z=>?_⟩;by_cases B:j=i
  ·subst B;exact z.wpOp q O ⟨fun _=>O,H⟩
  ·have:=ready_mono Z B
   rw[H.1]at this
   cases this
 | succ fuel ih=>
  intro A a w C K z O H;refine⟨fun h=>(by rw[h]at K;cases K),fun j Z=>?_⟩;by_cases B:j=i
  ·subst B;exact z.wpOp q O ⟨fun _=>O,H⟩
  ·have J:=H.2 j (ready_mono Z B)
   obtain⟨F,M,E,R⟩:=mem_ready.1 Z
   have G:∀e∈M.after,Region.binds md e=true->e.on≠i:=fun e u x t=>by
    have J:=R e u x;have g:=(mem_ready.1 K).1;rw[t]at J;rcases Nat.lt_or_ge i A.size with y|y
    ·simp[y]at g J;rw[g]at J;cases J
    ·simp[Array.getElem?_eq_none y]at J
   have U:j ∉ ex:=fun hm=>by
    obtain⟨oj',T,e,u,x,l⟩:=Region.waitsFor_spec (r j hm);rw[E]at T;cases T
    exact G e u x l
   have d:=wpOp_putIf E (C j M E B F G) (fun N b=>I i L N b q) (fun N b=>I j M N b E) hQ z J
   have D:∀k X,ops[k]? =some X->k≠i->(A.setIfInBounds j true).getD k true=false ->
    (∀e∈X.after,Region.binds md e=true->e.on≠i)->L.apart ops X=true:=fun k X hk n W m=>by
    refine C k X hk n ?_ m;by_cases V:j=k
    ·subst V;exact F
    ·rw[getD_set_ne true V]at W;exact W
   refine wpOp_mono (fun f w' Y=>⟨Y.2.1,ih (A.setIfInBounds j true) f w' D (ready_mono K (Ne.symm B)) Y.1 (Y.2.1 U) ?_⟩) d;rw[Array.setIfInBounds_comm _ _ B];exact Y.2.2
def wZ(P:Program)(ops:Array Oper)(Q:Exit->Act->World->Prop)(S:World->Prop)(ex:List Nat):Nat->List Bool->List Oper->Act->World->Prop
 | _,_,[],a,w=>Q .normal a w
 | _,[],_::_,_,_=>False
 | k,true::ss,o::rest,a,w=> ∃v,YieldsIf P ops S o v a/\S w/\wZ P ops Q S ex (k+1) ss rest (a.put o.dst v) w
 | k,false::ss,o::rest,a,w=>o.guard=none/\o.wp P a w (fun a' w'=>(ex.contains k=false->S w')/\wZ P ops Q S ex (k+1) ss rest a' w') Q
def oQ(md:Region.Mode)(ops:Array Oper)(ex:List Nat):Nat->List Bool->Array Bool->Bool
 | _,[],listed=>(Region.ready md ops listed).isEmpty
 | k,true::ss,listed=>Region.free md ops listed k&&(Region.ready md ops listed).contains k&&ex.all (fun j=>Region.waitsFor md ops j k)&&oQ md ops ex (k+1) ss (listed.setIfInBounds k true)
 | k,false::ss,listed=>(Region.ready md ops listed==[k])&&oQ md ops ex (k+1) ss (listed.setIfInBounds k true)
theorem Qo(z:Region.noSelect ops=true)(U:∀c a b w,Q (.panic c) a w->Q (.panic c) b w):∀(l:List Oper) (B:List Bool) (k:Nat) (A:Array Bool) (a:Act) (w:World),(∀j,l[j]? =ops[k+j]?)->B.length=l.length ->
 oQ md ops ex k B A=true->wZ P ops Q S ex k B l a w->zf P md ops Q S ex l.length A a w:=by
 intro l
 induction l with
 | nil=>
  intro B k A a w K C E h;have:B=[]:=List.eq_nil_of_length_eq_zero C;subst this;exact⟨by simpa [oQ] using E,by simpa [wZ] using h⟩
 | cons o rest ih=>
  intro B k A a w K C E h;have D:ops[k]? =some o:=by have:=K 0;simpa using this.symm
  have G:∀j,rest[j]? =ops[k+1+j]? :=fun j=>by
   have:=K (j+1);rw[aaj]at this;rw[this,Nat.add_assoc,Nat.add_comm 1 j]
  cases B with
  | nil=>simp at C
  | cons s B=>
   have L:B.length=rest.length:=by simpa using C
   cases s with
   | true=>
    simp only[oQ,aad]at E;obtain⟨⟨⟨F,H⟩,R⟩,T⟩:=E;obtain⟨v,x,V,I⟩:=h;refine xh D (Region.noSelect_spec z) (fun j X=>?_) (fun c a w Z=>U c _ _ w Z) rest.length A a w (Region.free_spec D F) (by simpa using H) x V (ih B (k+1) _ _ w G L T I);exact List.all_eq_true.1 R j X
   | false=>
    simp only[oQ,aad,beq_iff_eq]at E;obtain⟨F,H⟩:=E;obtain⟨W,I⟩:=h;refine⟨fun O=>(by rw[O]at F;cases F),fun i J=>?_⟩;rw[F]at J;simp at J;subst J;have y:Region.wanted o (yielded ops a.tmps)=true:=by simp[Region.wanted,W]
    unfold wpOp;simp only[D,y,if_true];refine .inl (Oper.wp_mono (fun N w' M=>⟨fun Y=>M.1 (by simpa using Y),ih B (i+1) _ N w' G L H M.2⟩) I)
theorem eQ{G:Nat}{a:Act}{w:World}{l:List Oper}(S:World->Prop)(ex:List Nat)(A:List Bool)(D:P.follows .mixedOrders=true)(F:Region.noSelect l.toArray=true)
 (C:A.length=l.length) (B:oQ .any l.toArray ex 0 A (Array.replicate l.length false)=true) (h:wZ P l.toArray (NoPanic Q) S ex 0 A l a w.drew):(Code.region G l.toArray true).wp P Q a w:=by
 refine wp_region_noPanic (wp_region_any D (xg (S:=S) (ex:=ex) _ _ _ _ ?_));have:=Qo (P:=P) (S:=S) (md:=.any) F (Q:=NoPanic Q) (fun c a b w E=>(E:False).elim) l A 0 (Array.replicate l.length false) a w.drew (fun j=>by simp) C B h;simpa using this
theorem jm{k:Nat}{A:List Bool}{a:Act}{w:World}(h:Q .normal a w):wZ P ops (NoPanic Q) S ex k A [] a w:=by
 cases A<;>exact h
theorem ic{k:Nat}{A:List Bool}{o:Oper}{rest:List Oper}{a:Act}{w:World}{v:Value}(C:o.guard=none)(B:S w)(D:∀w',S w'->(execOp a.eval o).run P w'= .ok (.value v) w')
 (h:wZ P ops Q S ex (k+1) A rest (a.put o.dst v) w):wZ P ops Q S ex k (true::A) (o::rest) a w:=
 ⟨v,.inl ⟨by simp[Region.wanted,C],D⟩,B,h⟩
theorem ib{k:Nat}{A:List Bool}{o:Oper}{rest:List Oper}{a:Act}{w w':World}{v:Value}(C:o.guard=none)(D:(execOp a.eval o).run P w= .ok (.value v) w')(B:ex.contains k=false->S w')
 (h:wZ P ops Q S ex (k+1) A rest (a.put o.dst v) w'):wZ P ops Q S ex k (false::A) (o::rest) a w:=
 ⟨C,by unfold Oper.wp;rw[D];exact⟨B,h⟩⟩
theorem iU{k:Nat}{A:List Bool}{o:Oper}{rest:List Oper}{a:Act}{w w':World}(C:o.guard=none)(D:(execOp a.eval o).run P w= .ok .skip w')(B:ex.contains k=false->S w')
 (h:wZ P ops Q S ex (k+1) A rest (a.put o.dst undef) w'):wZ P ops Q S ex k (false::A) (o::rest) a w:=
 ⟨C,by unfold Oper.wp;rw[D];exact⟨B,h⟩⟩
theorem sP{k:Nat}{A:List Bool}{o:Oper}{rest:List Oper}{a:Act}{w:World}(C:o.guard=none)
 (h:o.wp P a w (fun B w'=>(ex.contains k=false->S w')/\wZ P ops Q S ex (k+1) A rest B w') Q):wZ P ops Q S ex k (false::A) (o::rest) a w:=⟨C,h⟩
end
end Go.Proofs.YtoepemlnlpamlaaGreat
