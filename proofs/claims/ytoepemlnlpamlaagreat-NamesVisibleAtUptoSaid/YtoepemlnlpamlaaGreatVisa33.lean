/- The law NamesVisibleAt holds where what it reads is of bulk at most 1048576: it returns true, and its arguments read as before. Part 33: Path Get RwW. -/
import Derived.Test.YtoepemlnlpamlaaGreatVisa23
import Derived.Test.YtoepemlnlpamlaaGreatVisa32
set_option maxRecDepth 100000
set_option maxHeartbeats 4000000
namespace Go.Proofs.YtoepemlnlpamlaaGreat
open Go.RowKit
def j6:ae->List Nat->Option ae
 | t,[]=>some t
 | t,i::p=>(t.kids[i]?).bind fun k=>j6 k p
theorem Jy:∀{p:List Nat}{t y z:ae}{i:Nat},j6 t p=some y->y.kids[i]? =some z->j6 t (p++[i])=some z
 | [],t,y,z,i,h,hz=>by
  simp only[j6,aag]at h;subst h;simp[j6,hz]
 | j::p,t,y,z,i,h,hz=>by
  rw[j6]at h;rw[List.cons_append,j6]
  cases A:t.kids[j]? with
  | none=>rw[A]at h;cases h
  | some k=>
   rw[A]at h;exact Jy (p:=p) h hz
def pE:ae->List Nat->Nat
 | _,[]=>0
 | t,i::p=>match t.kids[i]? with
  | none=>0
  | some k=>1+aD (t.kids.take i)+pE k p
theorem OB:∀{p:List Nat}{t y z:ae}{i:Nat},j6 t p=some y->y.kids[i]? =some z->pE t (p++[i])=pE t p+(1+aD (y.kids.take i))
 | [],t,y,z,i,h,hz=>by
  simp only[j6,aag]at h;subst h;simp[pE,hz]
 | j::p,t,y,z,i,h,hz=>by
  rw[j6]at h;rw[List.cons_append,pE,pE]
  cases A:t.kids[j]? with
  | none=>rw[A]at h;cases h
  | some k=>
   rw[A]at h;have:=OB (p:=p) (t:=k) h hz;simp only;omega
def yX(p:List Nat):List Value:=p.map (fun(i:Nat)=>Value.int .i64 (i:Int))
theorem Uw{ts:List ae}{i j:Nat}{y:ae}(h:(dz (ts.drop i))[j]? =some y):
 ∃z,ts[i]? =some z/\((ai z<=j/\(dz (ts.drop (i+1)))[j - ai z]? =some y)\/(j<ai z/\(bT z)[j]? =some y)):=by
 cases A:ts.drop i with
 | nil=>rw[A]at h;simp[dz]at h
 | cons z r=>
  have D:ts[i]? =some z:=by
   have:=congrArg (fun l=>l[0]?) A;simpa using this
  have C:ts.drop (i+1)=r:=by
   have:=congrArg (List.drop 1) A;rw[List.drop_drop]at this;rw[this];rfl
  rw[A,dz]at h;refine⟨z,D,?_⟩;by_cases B:j<ai z
  ·rw[List.getElem?_append_left (by rw[iY];exact B)]at h
   exact .inr ⟨B,h⟩
  ·rw[aal (by rw[iY];omega),iY]at h
   exact .inl ⟨by omega,by rw[C];exact h⟩
theorem aj.of_set5{w:World}{g:Nat}{t:TypeId}{A B C D F:Value}(h:aj w g t #[A,B,C,D,F])(a b c d e:Value):aj (fw w g a b c d e) g t #[a,b,c,d,e]:=by
 have:=((((h.gu 0 a).gu 1 b).gu 2 c).gu 3 d).gu 4 e;unfold fw;simpa using this
theorem WJ{w:World}{g:Nat}{a b c d e:Value}:aF (fun x=>x=g) w (fw w g a b c d e):=by
 unfold fw;exact(((((aF.refl (fun x=>x=g) w).setCell (.inl rfl) _).setCell (.inl rfl) _).setCell (.inl rfl) _).setCell (.inl rfl) _).setCell (.inl rfl) _
theorem Path_any(t:ae)(A:Option Addr)(c:Nat)(num:Int)(w:World)(hN:ai t<=1000000)(hcap:t.kids.length<=c)(hk:aJ w w.heap.size A 0 t.kids):
 Calls Tryz.prog 23 #[aZ t A c,.int .i64 num] w fun e w'=>
  (e= .returned (.tuple #[.slice none 0 0,.bool false])/\Below w.heap.size w w'/\(num<0\/(ai t:Int)<=num)) \/
  (∃m p y R pc,num=((m:Nat):Int)/\e= .returned (.tuple #[.slice R (List.length p) pc,.bool true])/\(bT t)[m]? =some y/\j6 t p=some y/\p.length<=1000000/\aK w' w.heap.size 3 1 (.slice R p.length pc) p.length (yX p)/\Below w.heap.size w w'/\pE t p=m):=by
 obtain⟨i0,hi0,hz0,hz1,hz2⟩:=info_parts yJ;obtain⟨k0,x0,a0,z0,n0,-,-,-,-,hn0,jw⟩:=dR t A c;rw[jw];obtain⟨W1,U⟩:∃W1,w.alloc (.cells #[.int .i64 k0,.string x0,.int .i64 a0,.int .i64 z0,.slice A n0 c] 24)=W1:=⟨_,rfl⟩
 have H:aj W1 w.heap.size 24 #[.int .i64 k0,.string x0,.int .i64 a0,.int .i64 z0,.slice A n0 c]:=by rw[<- U];exact aj.new w _ _
 have hb1:Below w.heap.size w W1:=by rw[<- U];exact ag w _
 have C:=AQ (ai t) t A c W1 (aab _) (by omega) (aJ.mono hb1.size _ _ _ (aJ.below hb1 (aab _) _ _ _ hk));rw[jw]at C;obtain⟨ct,hct⟩:∃q,ai t=q:=⟨_,rfl⟩
 rw[hct]at C hN;have lV:=kH H;have HB1:=kH hb1;have HC:=kH C;have HCT:=kH hct;have HK:=kH hk;have HCAP:=kH hcap;have HN0:=kH hn0;have m0:=H.cell 0;have m1:=H.cell 1;have m2:=H.cell 2;have m3:=H.cell 3;have m4:=H.cell 4;have lm:=H.lt;have lh:Hid ((#[.int .i64 t.kind,.string t.text,.int .i64 t.at_,.int .i64 t.end_,.slice A t.kids.length c]:Array Value)= #[.int .i64 k0,.string x0,.int .i64 a0,.int .i64 z0,.slice A n0 c]):=kH (by unfold aZ at jw;injection jw);clear C H hb1 hct hk hcap hn0 jw;by_cases X:num<0
 ·go_in
  go_wp2_with (rw[U])
  try simp only[Exit.inBlock,Exit.then]
  refine bodyPost_ret (v:=.tuple #[.slice none 0 0,.bool false]) (by simp[results,Tryz.results23,go_sem]) rfl ?_;exact .inl ⟨rfl,HB1.out,.inl (by first|exact X|omega)⟩
 ·obtain⟨m,rfl⟩:=Int.eq_ofNat_of_zero_le (Int.not_lt.1 X)
  have hneg':¬((m:Int)<0):=by omega
  clear X;go_in
  go_wp2_with (rw[U])
  refine HC.out.mono ?_;rintro e w2 ⟨rfl,hb2⟩;have HB2:Hid (Below w.heap.size w w2):=kH (HB1.out.trans (hb2.mono HB1.out.size));have hn2:=lV.out.below hb2 lV.out.lt;clear U m0 m1 m2 m3 m4 lm hb2;by_cases hge:ct<=m
  ·have hge':(ct:Int)<=(m:Int):=by omega
   go_wp2_with fail
   try simp only[Exit.inBlock,Exit.then]
   refine bodyPost_ret (v:=.tuple #[.slice none 0 0,.bool false]) (by simp[results,Tryz.results23,go_sem]) rfl ?_;exact .inl ⟨rfl,HB2.out,.inr (by rw[HCT.out];omega)⟩
  ·have hlt:(m:Int)<(ct:Int):=by omega
   obtain⟨y,hy⟩:∃y,(bT t)[m]? =some y:=⟨_,aaf (by rw[iY,HCT.out];omega)⟩
   have HY:=kH hy;have vB:=kH hn2;have hw1:IntKind.i64.wrap ((m:Int) - 1)=(m:Int) - 1:=IntWalk.i64_in _ (by omega);clear hy hn2;go_wp2_with fail
   obtain⟨W3,hW3⟩:∃W3,w2.alloc (.cells #[] 3)=W3:=⟨_,rfl⟩
   have hb3:Below w2.heap.size w2 W3:=by rw[<- hW3];exact ag w2 _
   have hE3:aj W3 w2.heap.size 3 #[]:=by rw[<- hW3];exact aj.new w2 _ _
   have ho3:aK W3 (w.heap.size+1) 3 1 (.slice (some ⟨w2.heap.size,0,none⟩) 0 0) 0 []:=aK.block (n:=0) (cur:=#[]) vB.out.lt hE3 (by simp[maxLen]) rfl;have yw:=vB.out.below hb3 vB.out.lt;have HB3:Hid (Below w.heap.size w W3):=kH (HB2.out.trans (hb3.mono HB2.out.size));have FT:=kH ho3;have jA:=kH yw;clear hb3 hE3 ho3 yw;rw[hW3];clear hW3;go_loopg [1,6] (m+1) (fun gk s1 s6 wr=> ∃(u:ae) (Au:Option Addr) (cu k:Nat) (p:List Nat) (R:Option Addr) (pc:Nat),k<gk/\s1= .int .i64 ((k:Int) - 1)/\s6= .slice R p.length pc/\Below w.heap.size w wr/\aj wr w.heap.size 24 #[.int .i64 u.kind,.string u.text,.int .i64 u.at_,.int .i64 u.end_,.slice Au u.kids.length cu]/\aK wr (w.heap.size+1) 3 1 (.slice R p.length pc) p.length (yX p)/\j6 t p=some u/\(bT u)[k]? =some y/\aJ w w.heap.size Au 0 u.kids/\p.length+ai u<=ct/\pE t p+k=m)
   case atStart=>
    exact⟨t,A,c,m,[],some ⟨w2.heap.size,0,none⟩,0,by omega,rfl,rfl,HB3.out,by have:=jA.out;have h5:=lh.out;rw[h5];exact this,FT.out,rfl,HY.out,HK.out,by have:=HCT.out;simp;omega,by simp[pE]⟩
   case round=>
    obtain⟨u,Au,cu,k,p,R,pc,hkg,rfl,rfl,hB,Vt,hO,hF,hY,hKu,mi,yL⟩:=hrel;obtain⟨T,hwo⟩:∃T:World,T=wr:=⟨_,rfl⟩
    subst hwo;obtain⟨go,hgo⟩:∃go:Nat,go=gk:=⟨_,rfl⟩
    subst hgo
    cases k with
    | zero=>
     have e0:(((0:Nat):Int) - 1)= -1:=rfl;rw[e0];have hyu:u=y:=by rw[wQ]at hY;simpa using hY
     subst hyu;obtain⟨r,L⟩:∃q,p.length=q:=⟨_,rfl⟩
     have aO:Hid (∃m' p' y' PA' pc',(m:Int)=((m':Nat):Int)/\Ending.returned (.tuple #[.slice R r pc,.bool true])= .returned (.tuple #[.slice PA' (List.length p') pc',.bool true])/\(bT t)[m']? =some y'/\j6 t p'=some y'/\p'.length<=1000000/\aK T w.heap.size 3 1 (.slice PA' p'.length pc') p'.length (yX p')/\Below w.heap.size w T/\pE t p'=m'):=kH ⟨m,p,u,R,pc,rfl,by rw[L],HY.out,hF,by omega,hO.mono (by omega),hB,by omega⟩;rw[L];clear hO hF hB Vt hKu mi L hY hkg yL;go_wp2_with fail
     try simp only[Exit.inBlock,Exit.then]
     refine bodyPost_ret (v:=.tuple #[.slice R r pc,.bool true]) (by simp[results,Tryz.results23,go_sem]) rfl ?_;exact .inr aO.out
    | succ k=>
     have e0:(((k+1:Nat):Int) - 1)=(k:Int):=by omega
     rw[e0];have hkn:k+1<ai u:=by rw[<- iY];exact(aah.1 hY).1
     have hY':(dz (u.kids.drop 0))[k]? =some y:=by rw[wQ]at hY;simpa using hY
     have HY':=kH hY';have hkb:k<=1000000:=by omega
     have hbig:ai u<=1000000:=by omega
     have hpl:p.length+1<=ct:=by omega
     obtain⟨n,hn⟩:∃q,u.kids.length=q:=⟨_,rfl⟩
     obtain⟨r,L⟩:∃q,p.length=q:=⟨_,rfl⟩
     obtain⟨ku,hku⟩:∃q,u.kind=q:=⟨_,rfl⟩
     obtain⟨xu,hxu⟩:∃q,u.text=q:=⟨_,rfl⟩
     obtain⟨au,hau⟩:∃q,u.at_=q:=⟨_,rfl⟩
     obtain⟨zu,hzu⟩:∃q,u.end_=q:=⟨_,rfl⟩
     rw[hn,hku,hxu,hau,hzu]at Vt;rw[L]at hO hpl⊢;have hnk:n<=1000000:=by have h1:=jO u.kids;have h2:=pO u;omega
     have HB:=kH hB;have VR:=kH Vt;have HO:=kH hO;have HF:=kH hF;have HKu:=kH hKu;have HN:=kH hn;have HPN:=kH L;have HCU:=kH mi;have HKG:=kH hkg;have Hy:=kH yL;have b4:=Vt.cell 4;have lb:=Vt.lt;have hk0':(0:Int)<=(k:Int):=by omega
     clear hB Vt hO hF hKu hn L mi hkg hY hY' hkn e0 hku hxu hau hzu yL;go_wp2_with fail
     go_loopg [1,7] n (fun gi s1 s7 wi=> ∃i j:Nat,s1= .int .i64 (j:Int)/\s7= .int .i64 (i:Int)/\i+gi=n/\j<=k/\(dz (u.kids.drop i))[j]? =some y/\Below T.heap.size T wi/\j+aD (u.kids.take i)=k)
     case atStart=>exact⟨0,k,rfl,rfl,by omega,aab _,HY'.out,Below.refl _ _,by simp[aD]⟩
     case round=>
      obtain⟨i,j,rfl,rfl,hin,hjk,hyj,hBi,hjs⟩:=hrel;obtain⟨z,hz,halt⟩:=Uw hyj;obtain⟨vals,⟨b,B,hA,P,hcs⟩,hT⟩:=HKu.out.get i z hz;rw[Nat.zero_add]at hcs;obtain⟨O,S,jF,Vv⟩:=hT.five;subst hA;subst jF;have hlt:i<n:=by rw[<- HN.out];exact(aah.1 hz).1
      have hBw:=HB.out.trans (hBi.mono HB.out.size);obtain⟨kz,xz,f,d,zn,hk5,hx5,ha5,he5,FD,hnv5⟩:=dR z O S;rw[hk5,hx5,ha5,he5,FD]at hcs;have Ea:∀(q:Nat) (v:Value),[Value.int .i64 kz,.string xz,.int .i64 f,.int .i64 d,.slice O zn S][q]? =some v->w.cell? ⟨b,B+i*5+q,none⟩=some v:=fun q v hq=>hcs q v hq
      have hup:∀N,Below w.heap.size w N->N.cell? ⟨b,B+i*5,none⟩=some (.int .i64 kz)/\N.cell? ⟨b,B+i*5+1,none⟩=some (.string xz)/\N.cell? ⟨b,B+i*5+2,none⟩=some (.int .i64 f)/\N.cell? ⟨b,B+i*5+3,none⟩=some (.int .i64 d)/\N.cell? ⟨b,B+i*5+4,none⟩=some (.slice O zn S):=fun N hb=>⟨(hb.cell (p:=⟨b,_,none⟩) P).trans (by simpa using Ea 0 _ rfl),(hb.cell (p:=⟨b,_,none⟩) P).trans (Ea 1 _ rfl),(hb.cell (p:=⟨b,_,none⟩) P).trans (Ea 2 _ rfl),(hb.cell (p:=⟨b,_,none⟩) P).trans (Ea 3 _ rfl),(hb.cell (p:=⟨b,_,none⟩) P).trans (Ea 4 _ rfl)⟩
      have hczm:ai z<=ai u:=by
       have h1:=gD u.kids i z hz;have h2:=iZ u.kids (i+1);have h3:=pO u;omega
      have J:∀N,Below w.heap.size w N->Calls Tryz.prog 39 #[.agg #[.int .i64 kz,.string xz,.int .i64 f,.int .i64 d,.slice O zn S]] N fun e w'=>e= .returned (.int .i64 (ai z:Int))/\Below N.heap.size N w':=fun N hb=>by
       have:=AQ (ai z) z O S N (aab _) (by omega) (aJ.mono hb.size _ _ _ (aJ.below hb (aab _) _ _ _ Vv));rw[hnv5]at this;exact this
      obtain⟨cc,hcc⟩:∃q,ai z=q:=⟨_,rfl⟩
      rw[hcc]at J halt;have hccb:cc<=1000000:=by omega
      have D:=VR.out.below hBi VR.out.lt;have d4:=D.cell 4;have li:=D.lt;obtain⟨t0,t1,t2,t3,t4⟩:=hup _ hBw;have lz:b<wr.heap.size:=Nat.lt_of_lt_of_le P hBw.size;have HBI:=kH hBi;have mJ:=kH hBw;have HUP:=kH hup;have iN:=kH J;have HZ:Hid (u.kids[i]? =some z/\ai z=cc/\ai z<ai u/\aJ w w.heap.size O 0 z.kids/\z.kind=kz/\z.text=xz/\z.at_=f/\z.end_=d/\z.kids.length=zn):=kH ⟨hz,hcc,by have h1:=gD u.kids i z hz;have h2:=iZ u.kids (i+1);have h3:=pO u;omega,Vv,hk5,hx5,ha5,he5,FD⟩;have qD:=kH hin;have Sj:(i:Int)<(n:Int):=by omega
      have hw2:IntKind.i64.wrap ((i:Int)+1)=(i:Int)+1:=IntWalk.i64_in _ (by omega);have hw3:IntKind.i64.wrap ((j:Int) - (cc:Int))=(j:Int) - (cc:Int):=IntWalk.i64_in _ (by omega);have hw4:IntKind.i64.wrap ((j:Int) - 1)=(j:Int) - 1:=IntWalk.i64_in _ (by omega);have HJK:=kH hjk;have zG:Hid (j+aD (u.kids.take i)=k/\aD (u.kids.take (i+1))=aD (u.kids.take i)+cc):=kH ⟨hjs,by rw[gD u.kids i z hz,hcc]⟩;clear hyj hz hcs hT Vv Ea hup J D hBi hBw hczm hcc hk5 hx5 ha5 he5 FD hnv5 hin hbig hjs;rcases halt with⟨hle,Y⟩| ⟨hltc,W⟩
      ·have bG:=kH Y
       have hlei:(cc:Int)<=(j:Int):=by omega
       clear Y;go_wp2_with fail
       refine(iN.out _ mJ.out).mono ?_;rintro e Q ⟨rfl,F⟩;have gG:Hid (Below w.heap.size w Q):=kH (mJ.out.trans (F.mono mJ.out.size));have Oc:Hid (Below T.heap.size T Q):=kH (HBI.out.trans (F.mono HBI.out.size));have D:=VR.out.below Oc.out VR.out.lt;have d4':=D.cell 4;have li':=D.lt;obtain⟨q0,q1,q2,q3,q4⟩:=HUP.out _ gG.out;have lz':b<Q.heap.size:=Nat.lt_of_lt_of_le lz F.size;clear F D t0 t1 t2 t3 t4 d4 li lz;go_wp2_with fail
       refine(iN.out _ gG.out).mono ?_;rintro e l ⟨rfl,I⟩;have HBI6:Hid (Below T.heap.size T l):=kH (Oc.out.trans (I.mono Oc.out.size));clear I q0 q1 q2 q3 q4 d4' li' lz';go_wp2_with fail
       go_roundg (gk - 1)
       case measure=>have:=qD.out;omega
       case rel=>exact⟨i+1,j - cc,by congr 1;omega,by simp,by have:=qD.out;omega,by have:=HJK.out;omega,bG.out,HBI6.out,by have:=zG.out;omega⟩
      ·have HDN:=kH W
       have hlti:(j:Int)<(cc:Int):=by omega
       clear W;go_wp2_with fail
       refine(iN.out _ mJ.out).mono ?_;rintro e Q ⟨rfl,F⟩;have gG:Hid (Below w.heap.size w Q):=kH (mJ.out.trans (F.mono mJ.out.size));have Oc:Hid (Below T.heap.size T Q):=kH (HBI.out.trans (F.mono HBI.out.size));have D:=VR.out.below Oc.out VR.out.lt;have CS:=kH D;have jI:aK Q (w.heap.size+1) 3 1 (.slice R r pc) r (yX p):=HO.out.below Oc.out (fun g hg=>(HO.out.lt g hg).2);have Em:=kH jI;clear F D t0 t1 t2 t3 t4 d4 li lz jI;go_wp2_with fail
       have b4':Q.cell? ⟨w.heap.size,4,none⟩=some (.slice (some ⟨b,B,none⟩) n cu):=CS.out.cell 4;have lb5:=CS.out.lt;have jy:∀w',Below w.heap.size w w'->w'.cell? ⟨w.heap.size,4,none⟩=some (.slice (some ⟨b,B,none⟩) n cu)->(w'.cell? ⟨w.heap.size,4,none⟩=some (.slice (some ⟨b,B,none⟩) n cu)/\w'.cell? ⟨b,B+i*5,none⟩=some (.int .i64 kz)/\w'.cell? ⟨b,B+i*5+1,none⟩=some (.string xz)/\w'.cell? ⟨b,B+i*5+2,none⟩=some (.int .i64 f)/\w'.cell? ⟨b,B+i*5+3,none⟩=some (.int .i64 d)/\w'.cell? ⟨b,B+i*5+4,none⟩=some (.slice O zn S)):=fun w' hb h4=>⟨h4,HUP.out _ hb⟩
       have hS0:=jy Q.drew gG.out.drew b4';refine Ql (fun w'=>w'.cell? ⟨w.heap.size,4,none⟩=some (.slice (some ⟨b,B,none⟩) n cu)/\w'.cell? ⟨b,B+i*5,none⟩=some (.int .i64 kz)/\w'.cell? ⟨b,B+i*5+1,none⟩=some (.string xz)/\w'.cell? ⟨b,B+i*5+2,none⟩=some (.int .i64 f)/\w'.cell? ⟨b,B+i*5+3,none⟩=some (.int .i64 d)/\w'.cell? ⟨b,B+i*5+4,none⟩=some (.slice O zn S)) (fun _=>True) [9,10,12,13] [(9,0),(10,0),(0,1),(1,1),(4,1),(5,1),(6,1),(7,1),(8,1),(2,2),(3,2),(11,2),(12,2),(13,2)] (by kernel_rfl) (by kernel_rfl) rfl (by kernel_rfl) ?_;iterate 2(refine Wo (by simp only[aak,aaj,aai];rfl) (by rfl) trivial (by intro w' hSw;go_simp;rfl) ?_;simp only[Act.put,sA,sZ,sC])
       refine LC (by simp only[aak,aai];rfl) (by rfl) ⟨trivial,hS0⟩ (by intro w' hSw;obtain⟨-,hs0,hs1,hs2,hs3,hs4,hs5⟩:=hSw;go_simp;rfl) ?_;iterate 6(simp only[Act.put,sA,sZ,sC];refine LC (by simp only[aak,aaj,aai];rfl) (by rfl) ⟨trivial,hS0⟩ (by intro w' hSw;obtain⟨-,hs0,hs1,hs2,hs3,hs4,hs5⟩:=hSw;go_simp;rfl) ?_)
       simp only[Act.put,sA,sZ,sC];refine JQ (w':=Q.drew.alloc (.cells #[.int .i64 (i:Int)] 3)) (by simp only[aak,aaj,aai];rfl) (by rfl) (by go_simp;rfl) trivial (fun _=>jy _ (gG.out.drew.alloc gG.out.size _) (by go_simp)) ?_;simp only[Act.put,sA,sZ,sC];refine wpHQ_law (by simp only[aak,aaj,aai];rfl) (by rfl) ?_;refine(iG _ (.tmp 39) (.tmp 41) _ rfl (w.heap.size+1) 3 i0 _ 1 8 Tryz.underlying28 hi0 hz0 hz1 hz2 rfl (.slice R r pc) r (yX p) rfl (Em.out.drew.alloc _) ⟨Q.heap.size,0,none⟩ 1 1 [.int .i64 (i:Int)] rfl rfl (wF _ _ _ (by go_simp)) (by simp[Value.oneCell']) (by simp only[maxLen];omega) (by omega) (by simp;omega) ?_);intro v6 l M K hat;obtain⟨A6,c6,hv6,-,-⟩:=M.shape;subst hv6;have hne:some w.heap.size≠(Value.slice R r pc).ownBlock:=fun h=>by have:=(Em.out.lt _ h.symm).1;omega
       have Ad:aj l w.heap.size 24 _:=aj.grown (CS.out.drew.alloc _) K hne;have hs6:aF (fun g=>w.heap.size+1<=g) Q.drew l:=((aF.refl (fun g=>w.heap.size+1<=g) Q.drew).alloc _).grown K (fun g hg=>.inl (Em.out.lt g hg).1);have I:Below w.heap.size w l:=gG.out.drew.trans (hs6.toBelow gG.out.size (fun g hg=>by omega));have rz:=jy l I (Ad.cell 4);refine⟨⟨trivial,fun _=>rz⟩,?_⟩;simp only[Act.put,sA,sZ,sC];obtain⟨-,g0,g1,g2,g3,g4⟩:=Ad.five;obtain⟨⟨y0,y1,y2,y3,y4⟩,-⟩:=Ad.five;refine JQ (w':=l) (by simp only[aak,aaj,aai];rfl) (by rfl) (by go_simp;rfl) trivial (fun _=>rz) ?_;simp only[Act.put,sA,sZ,sC];refine YS (w':=fw l w.heap.size (.int .i64 kz) (.string xz) (.int .i64 f) (.int .i64 d) (.slice O zn S)) (by simp only[aak,aaj,aai];rfl) (by rfl) (by go_simp;rfl) trivial (fun h=>by cases h) ?_;simp only[Act.put];refine JQ (w':=fw l w.heap.size (.int .i64 kz) (.string xz) (.int .i64 f) (.int .i64 d) (.slice O zn S)) (by simp only[aak,aaj,aai];rfl) (by rfl) (by go_simp;rfl) trivial (fun h=>by cases h) ?_;simp only[Act.put,sA,sZ,sC];refine wpHQ_nil ?_;obtain⟨W7,rP⟩:∃W7,fw l w.heap.size (.int .i64 kz) (.string xz) (.int .i64 f) (.int .i64 d) (.slice O zn S)=W7:=⟨_,rfl⟩
       have hs7:aF (fun x=>x=w.heap.size) l W7:=by rw[<- rP];exact WJ
       have uq:aj W7 w.heap.size 24 #[.int .i64 kz,.string xz,.int .i64 f,.int .i64 d,.slice O zn S]:=by rw[<- rP];exact aj.of_set5 Ad _ _ _ _ _
       have dF:Below w.heap.size w W7:=I.trans (hs7.toBelow I.size (fun g hg=>by omega))
       have zY:aK W7 (w.heap.size+1) 3 1 (.slice A6 (r+1) c6) (r+1) (yX (p++[i])):=by
        have h1:=M.since hs7 (fun g hg hq=>by have:=(M.lt g hg).1;omega);have h2:yX (p++[i])=yX p++[.int .i64 (i:Int)]:=by simp[yX]
        rw[h2];exact h1
       have vR:=kH uq;have gK:=kH dF;have wW:=kH zY;rw[rP];clear rP hs7 uq dF zY M K hat hne Ad hs6 I rz jy hS0 g0 g1 g2 g3 g4 y0 y1 y2 y3 y4 b4' lb5 b4 lb;go_wp2_with fail
       go_roundg (go - 1)
       case measure=>have:=HKG.out;omega
       case rel=>
        obtain⟨z1,z2,z3,z4,z5,z6,z7,z8,z9⟩:=HZ.out;have Z:(p++[i]).length=r+1:=by rw[aam,HPN.out];rfl
        refine⟨z,O,S,j,p++[i],A6,c6,?_,by simp,by rw[Z],gK.out,?_,?_,Jy HF.out z1,HDN.out,z4,?_,?_⟩
        ·have:=HKG.out;have:=HJK.out;omega
        ·rw[z5,z6,z7,z8,z9];exact vR.out
        ·rw[Z];exact wW.out
        ·rw[Z];have:=HCU.out;have:=HPN.out;omega
        ·rw[OB HF.out z1];have:=Hy.out;have:=zG.out;omega
def jr(i:Nat):List Value:=[.int .i64 (i:Int)]
structure RE where
 lo:Nat
 base:Nat
 rp:Nat
 uA:Option Addr
 uc:Nat
 gA:Option Addr
 gc:Nat
structure RQ where
 dA:Option Addr
 dc:Nat
 lA:Option Addr
 lc:Nat
 aA:Option Addr
 ac:Nat
def Tw(E:RE)(w:World)(g:Nat):Prop:=g=E.rp\/E.uA.map (·.block)=some g\/(E.base<=g/\∃cs t fr,w.heap[g]? =some (.cells cs t fr)/\(t=49\/t=78))
def KW(E:RE)(w w':World):Prop:=aF (Tw E w) w w'
def gP(w:World)(ub:Option Nat)(A:Option Addr)(s:List Nat):Prop:=
 ∀(i x:Nat),s[i]? =some x->∃b off cs,A=some ⟨b,off,none⟩/\ub≠some b/\w.heap[b]? =some (.cells cs 3 (0,0))/\w.cell? ⟨b,off+i,none⟩=some (.int .i64 (x:Int))
structure dP (E:RE) (G:List Dc) (mk:Int) (q:RW) (V:RQ) (w:World):Prop where
 blk:aj w E.rp 84 #[.slice V.dA q.ds.length V.dc,.slice E.uA q.uses.length E.uc,.slice V.lA q.list.length V.lc,.slice E.gA G.length E.gc,.int .i64 (q.num:Int),.int .i64 mk,.slice V.aA q.at_.length V.ac]
 ds:aK w E.base 49 4 (.slice V.dA q.ds.length V.dc) q.ds.length (q.ds.flatMap dL)
 us:aK w E.lo 3 1 (.slice E.uA q.uses.length E.uc) q.uses.length (iB q.uses)
 ls:aK w E.base 78 5 (.slice V.lA q.list.length V.lc) q.list.length (q.list.flatMap bO)
 gl:aK w E.lo 49 4 (.slice E.gA G.length E.gc) G.length (G.flatMap dL)
 gb:∀g,(Value.slice E.gA G.length E.gc).ownBlock=some g->g<E.base
 at_:gP w (Value.slice E.uA q.uses.length E.uc).ownBlock V.aA q.at_
 low:E.lo<=E.base/\E.lo<=E.rp
 cap:q.at_.length<=V.ac
theorem DY(A:Option Addr)(n c:Nat):(Value.slice A n c).ownBlock=A.map (·.block):=by
 cases A<;>rfl
section
variable {E:RE}{w w1 w':World}
theorem KW.refl(E:RE)(w:World):KW E w w:=aF.refl _ _
theorem KW.trans(h:KW E w w1)(k:KW E w1 w'):KW E w w':=by
 refine h.step k fun g H=>?_
 by_cases B:g<w.heap.size
 ·left
  by_cases D:Tw E w g
  ·exact D
  ·have F:=h.block g B D
   rcases H with A|A| ⟨A,C⟩
   ·exact .inl A
   ·exact .inr (.inl A)
   ·rw[F]at C
    exact .inr (.inr ⟨A,C⟩)
 ·right
  omega
theorem KW.of_below(A:Below w.heap.size w w'):KW E w w':=(aF.refl _ _).below A
theorem KW.low{G:List Dc}{mk:Int}{q:RW}{V:RQ}(h:KW E w w')(A:dP E G mk q V w):Below E.lo w w':=by
 refine aF.toBelow h (by have:=A.blk.lt;have:=A.low.2;omega) fun k B=>?_
 rcases B with B|B| ⟨B,-⟩
 ·have:=A.low.2
  omega
 ·exact(A.us.lt k (by rw[DY];exact B)).1
 ·have:=A.low.1
  omega
theorem KW.blk(h:KW E w w'){g:Nat}{t:TypeId}{C:Array Value}(H:aj w g t C)(K:g≠E.rp)(L:t≠49)(M:t≠78)(N:E.uA.map (·.block)≠some g):aj w' g t C:=by
 refine aj.since H h fun A=>?_
 rcases A with A|A| ⟨-,I,O,J,D,B⟩
 ·exact K A
 ·exact N A
 ·have F:w.heap[g]? =some (.cells C t (0,0)):=H
  rw[F]at D;simp at D;obtain⟨_,rfl,_⟩:=D;rcases B with B|B
  ·exact L B
  ·exact M B
theorem gP.kw{J:Option Nat}{A:Option Addr}{s:List Nat}(R:gP w J A s)(h:KW E w w')(S:J=E.uA.map (·.block))(Q:∃C,aj w E.rp 84 C):gP w' J A s:=by
 intro i x P;obtain⟨b,I,C,O,K,L,M⟩:=R i x P;have N:aj w b 3 C:=L;obtain⟨T,H⟩:=Q
 have F:b≠E.rp:=by
  rintro rfl;have D:w.heap[E.rp]? =some (.cells T 84 (0,0)):=H;rw[L]at D;simp only[aag,Obj.cells.injEq]at D;exact absurd D.2.1 (by decide)
 have B:=h.blk N F (by decide) (by decide) (by rw[<- S];exact K);exact⟨b,I,C,O,K,B,by rw[B.cell];rw[N.cell]at M;exact M⟩
end
theorem gP.nil(w:World)(B:Option Nat)(A:Option Addr):gP w B A []:=fun i x h=>by simp at h
theorem gP.below{w w':World}{I:Option Nat}{A:Option Addr}{s:List Nat}(O:gP w I A s)(M:Below w.heap.size w w'):gP w' I A s:=by
 intro i x N;obtain⟨b,D,F,J,K,L,H⟩:=O i x N;have C:aj w b 3 F:=L;have B:=C.below M C.lt;exact⟨b,D,F,J,K,B,by rw[B.cell];rw[C.cell]at H;exact H⟩
theorem gP.rowAt{w:World}{M:Option Nat}{A:Option Addr}{s:List Nat}(L:gP w M A s):bU 1 jr w w.heap.size A s:=by
 intro k x K;obtain⟨b,C,D,F,N,H,I⟩:=L k x K;have J:aj w b 3 D:=H;refine⟨b,C,F,J.lt,fun j v B=>?_⟩
 match j,B with
 | 0,B=>
  have:v= .int .i64 (x:Int):=by simpa [jr] using B.symm
  rw[this,Nat.mul_one,Nat.add_zero];exact I
 | j+1,B=>simp[jr]at B
theorem gP.DZ{w:World}{base n c:Nat}{A:Option Addr}{s:List Nat}{K:Option Nat}(h:aK w base 3 1 (.slice A n c) n (s.flatMap jr))(J:s.length=n)(D:∀g,(Value.slice A n c).ownBlock=some g->K≠some g):gP w K A s:=by
 intro i x C;have F:i<n:=by rw[<- J];exact(aah.1 C).1
 obtain⟨g,H,L,N,-,-,-,-,I⟩:=h.form (by omega);cases N
 obtain⟨M,B⟩:=h.typed (g:=g) rfl;refine⟨g,H,M,rfl,D g rfl,B,I i _ ?_⟩;clear h I B D J F
 induction s generalizing i with
 | nil=>simp at C
 | cons y s ih=>
  rw[List.flatMap_cons]
  cases i with
  | zero=>
   simp at C;subst C;rfl
  | succ i=>
   rw[aal (by simp[jr])];exact ih i (by simpa using C)
section
variable {E:RE}{G:List Dc}{mk:Int}{q:RW}{V:RQ}{w w':World}
theorem dP.below(h:dP E G mk q V w)(B:Below w.heap.size w w'):dP E G mk q V w':=
 ⟨h.blk.below B h.blk.lt,h.ds.below B fun g A=>(h.ds.lt g A).2,h.us.below B fun g A=>(h.us.lt g A).2,h.ls.below B fun g A=>(h.ls.lt g A).2,h.gl.below B fun g A=>(h.gl.lt g A).2,h.gb,h.at_.below B,h.low,h.cap⟩
theorem dP.Xw(h:dP E G mk q V w):(Value.slice V.dA q.ds.length V.dc).ownBlock≠some E.rp:=h.ds.cB h.blk (by decide)
theorem dP.ne_us(h:dP E G mk q V w):(Value.slice E.uA q.uses.length E.uc).ownBlock≠some E.rp:=h.us.cB h.blk (by decide)
theorem dP.Xv(h:dP E G mk q V w):(Value.slice V.lA q.list.length V.lc).ownBlock≠some E.rp:=h.ls.cB h.blk (by decide)
theorem dP.ne_gl(h:dP E G mk q V w):(Value.slice E.gA G.length E.gc).ownBlock≠some E.rp:=h.gl.cB h.blk (by decide)
theorem gP.setCell{H:Option Nat}{A:Option Addr}{s:List Nat}(P:gP w H A s){g:Nat}(N:∀B,w.heap[g]? =some (.cells B 3 (0,0))->H=some g)(o:Nat)(u:Value):gP (w.setCell ⟨g,o,none⟩ u) H A s:=by
 intro i x O;obtain⟨b,F,B,M,I,J,K⟩:=P i x O
 have D:b≠g:=by
  rintro rfl;exact I (N B J)
 have L:aj w b 3 B:=J;have C:=L.far (p:=⟨g,o,none⟩) D u;exact⟨b,F,B,M,I,C,by rw[C.cell];rw[L.cell]at K;exact K⟩
theorem gP.grown{H:Option Nat}{A:Option Addr}{s:List Nat}{D:Option Nat}(Q:gP w H A s)(N:w.grownBy w' D)(P:∀g B,D=some g->w.heap[g]? =some (.cells B 3 (0,0))->H=some g):gP w' H A s:=by
 intro i x O;obtain⟨b,F,B,M,I,J,K⟩:=Q i x O;have L:aj w b 3 B:=J;have C:=L.grown N (fun e=>I (P b B e.symm J));exact⟨b,F,B,M,I,C,by rw[C.cell];rw[L.cell]at K;exact K⟩
theorem dP.Zq(h:dP E G mk q V w){D:Option Nat}:∀B,w.heap[E.rp]? =some (.cells B 3 (0,0))->D=some E.rp:=by
 intro B C;have A:w.heap[E.rp]? =some (Obj.cells _ _ (0,0)):=h.blk;rw[C]at A;simp only[aag,Obj.cells.injEq]at A;exact absurd A.2.1 (by decide)
theorem dP.num_(h:dP E G mk q V w)(m:Nat):dP E G mk { q with num:=m } V (w.setCell ⟨E.rp,4,none⟩ (.int .i64 (m:Int))):=
 ⟨by have:=h.blk.gu 4 (.int .i64 (m:Int));simpa using this,h.ds.setCell (p:=⟨E.rp,4,none⟩) h.Xw _,h.us.setCell (p:=⟨E.rp,4,none⟩) h.ne_us _,h.ls.setCell (p:=⟨E.rp,4,none⟩) h.Xv _,h.gl.setCell (p:=⟨E.rp,4,none⟩) h.ne_gl _,h.gb,h.at_.setCell h.Zq 4 _,h.low,h.cap⟩
theorem dP.mark_(h:dP E G mk q V w){A:Option Addr}{c:Nat}{s:List Nat}(C:gP w (Value.slice E.uA q.uses.length E.uc).ownBlock A s)(B:s.length<=c):dP E G mk { q with at_:=s } { V with aA:=A,ac:=c } (w.setCell ⟨E.rp,6,none⟩ (.slice A s.length c)):=
 ⟨by have:=h.blk.gu 6 (.slice A s.length c);simpa using this,h.ds.setCell (p:=⟨E.rp,6,none⟩) h.Xw _,h.us.setCell (p:=⟨E.rp,6,none⟩) h.ne_us _,h.ls.setCell (p:=⟨E.rp,6,none⟩) h.Xv _,h.gl.setCell (p:=⟨E.rp,6,none⟩) h.ne_gl _,h.gb,C.setCell h.Zq 6 _,h.low,B⟩
theorem D5{w:World}{g D:Nat}{H A:Array Value}{t F:TypeId}{I B:Nat×Nat}(h:w.heap[g]? =some (.cells H t I))(C:w.heap[D]? =some (.cells A F B))(J:t≠F):g≠D:=by
 rintro rfl;rw[h]at C;simp only[aag,Obj.cells.injEq]at C;exact J C.2.1
theorem dP.JU(h:dP E G mk q V w){g B:Nat}(F:E.uA=some ⟨g,B,none⟩)(i:Nat)(O:i<q.uses.length)(k:Int):dP E G mk { q with uses:=q.uses.set i k } V (w.setCell ⟨g,B+i,none⟩ (.int .i64 k)):=by
 have J:=h.us;rw[F]at J;obtain⟨P,D⟩:=J.typed (g:=g) rfl
 have C:∀{b e size v n xs},aK w b e size v n xs->e≠3->aK (w.setCell ⟨g,B+i,none⟩ (.int .i64 k)) b e size v n xs:=fun K I=>K.setCell (p:=⟨g,B+i,none⟩) (fun N=>by
  obtain⟨M,H⟩:=K.typed N
  exact D5 H D I rfl) _
 have L:E.rp≠g:=D5 h.blk D (by decide);have A:(q.uses.set i k).length=q.uses.length:=by simp
 refine⟨?_,C h.ds (by decide),?_,C h.ls (by decide),C h.gl (by decide),h.gb,?_,h.low,h.cap⟩
 ·show aj _ _ _ #[_,.slice E.uA (q.uses.set i k).length E.uc,_,_,_,_,_]
  rw[A];exact h.blk.far (p:=⟨g,B+i,none⟩) L _
 ·show aK _ _ _ _ (.slice E.uA (q.uses.set i k).length E.uc) (q.uses.set i k).length (iB (q.uses.set i k))
  rw[A,F,show iB (q.uses.set i k)=(iB q.uses).set i (.int .i64 k) from List.map_set];exact J.set1 i O _
 ·show gP _ (Value.slice E.uA (q.uses.set i k).length E.uc).ownBlock _ _
  rw[A];exact h.at_.setCell (fun _ _=>by rw[DY,F];rfl) _ _
theorem dP.note_(h:dP E G mk q V w){A:Option Addr}{c:Nat}(d:Dg)(N:aK w' E.base 78 5 (.slice A (q.list.length+1) c) (q.list.length+1) ((q.list++[d]).flatMap bO))(K:w.grownBy w' (Value.slice V.lA q.list.length V.lc).ownBlock):dP E G mk { q with list:=q.list++[d] } { V with lA:=A,lc:=c } (w'.setCell ⟨E.rp,2,none⟩ (.slice A (q.list.length+1) c)):=by
 have B:(q.list++[d]).length=q.list.length+1:=by simp
 have C:∀{b e size v n xs},aK w b e size v n xs->e≠78->e≠84->aK (w'.setCell ⟨E.rp,2,none⟩ (.slice A (q.list.length+1) c)) b e size v n xs:=fun M L D=>(M.kept K (by
  cases Q:Value.ownBlock _ with
  | none=>exact .inl rfl
  | some g=>
   refine .inr fun F=>?_
   exact M.apart h.ls L g Q F.symm)).setCell (p:=⟨E.rp,2,none⟩) (M.cB h.blk D ) _
 have H:=h.blk.grown K (fun e=>h.Xv e.symm);refine⟨?_,C h.ds (by decide) (by decide),C h.us (by decide) (by decide),?_,C h.gl (by decide) (by decide),h.gb,?_,h.low,h.cap⟩
 ·show aj _ _ _ #[_,_,.slice A (q.list++[d]).length c,_,_,_,_]
  rw[B];have:=H.gu 2 (.slice A (q.list.length+1) c);simpa using this
 ·show aK _ _ _ _ (.slice A (q.list++[d]).length c) (q.list++[d]).length _
  rw[B];exact N.setCell (p:=⟨E.rp,2,none⟩) (N.cB H (by decide)) _
 ·refine(h.at_.grown K fun g O F I=>?_).setCell (fun O I=>?_) _ _
  ·obtain⟨P,J⟩:=h.ls.typed F
   exact absurd rfl (D5 I J (by decide))
  ·exact absurd rfl (D5 H I (by decide))
theorem dP.decl_(h:dP E G mk q V w){A:Option Addr}{c:Nat}(d:Dc)(M:aK w' E.base 49 4 (.slice A (q.ds.length+1) c) (q.ds.length+1) ((q.ds++[d]).flatMap dL))(K:w.grownBy w' (Value.slice V.dA q.ds.length V.dc).ownBlock):dP E G mk { q with ds:=q.ds++[d] } { V with dA:=A,dc:=c } (w'.setCell ⟨E.rp,0,none⟩ (.slice A (q.ds.length+1) c)):=by
 have B:(q.ds++[d]).length=q.ds.length+1:=by simp
 have C:∀{b e size v n xs},aK w b e size v n xs->(∀g,v.ownBlock=some g->(Value.slice V.dA q.ds.length V.dc).ownBlock≠some g)->e≠84->aK (w'.setCell ⟨E.rp,0,none⟩ (.slice A (q.ds.length+1) c)) b e size v n xs:=fun N L D=>(N.kept K (by
  cases S:Value.ownBlock _ with
  | none=>exact .inl rfl
  | some g=>
   refine .inr fun F=>?_
   exact L g S F.symm)).setCell (p:=⟨E.rp,0,none⟩) (N.cB h.blk D) _
 have H:=h.blk.grown K (fun e=>h.Xw e.symm);refine⟨?_,?_,C h.us (h.us.apart h.ds (by decide)) (by decide),C h.ls (h.ls.apart h.ds (by decide)) (by decide),C h.gl (fun g Q R=>?_) (by decide),h.gb,?_,h.low,h.cap⟩
 ·show aj _ _ _ #[.slice A (q.ds++[d]).length c,_,_,_,_,_,_]
  rw[B];have:=H.gu 0 (.slice A (q.ds.length+1) c);simpa using this
 ·show aK _ _ _ _ (.slice A (q.ds++[d]).length c) (q.ds++[d]).length _
  rw[B];exact M.setCell (p:=⟨E.rp,0,none⟩) (M.cB H (by decide)) _
 ·have:=h.gb g Q
  have:=(h.ds.lt g R).1;omega
 ·refine(h.at_.grown K fun g O F I=>?_).setCell (fun O I=>?_) _ _
  ·obtain⟨P,J⟩:=h.ds.typed F
   exact absurd rfl (D5 I J (by decide))
  ·exact absurd rfl (D5 H I (by decide))
theorem U8{A:Option Addr}{n c:Nat}{e:TypeId}{size:Nat}{J:List Value}(B:aK w E.base e size (.slice A n c) n J)(H:e=49\/e=78)(I:w.grownBy w' (Value.slice A n c).ownBlock)(i:Nat)(u:Value):KW E w (w'.setCell ⟨E.rp,i,none⟩ u):=
 ((aF.refl (Tw E w) w).grown I fun k C=>.inl (.inr (.inr ⟨(B.lt k C).1,by
  obtain⟨D,F⟩:=B.typed C
  exact⟨D,e,(0,0),F,H⟩⟩))).setCell (p:=⟨E.rp,i,none⟩) (.inl (.inl rfl)) u
theorem Zw(E:RE)(w:World)(i:Nat)(u:Value):KW E w (w.setCell ⟨E.rp,i,none⟩ u):=(aF.refl _ w).setCell (p:=⟨E.rp,i,none⟩) (.inl (.inl rfl)) u
theorem kw_use{g A:Nat}(B:E.uA=some ⟨g,A,none⟩)(w:World)(i:Nat)(u:Value):KW E w (w.setCell ⟨g,A+i,none⟩ u):=(aF.refl _ w).setCell (p:=⟨g,A+i,none⟩) (.inl (.inr (.inl (by rw[B];rfl)))) u
end
end Go.Proofs.YtoepemlnlpamlaaGreat
