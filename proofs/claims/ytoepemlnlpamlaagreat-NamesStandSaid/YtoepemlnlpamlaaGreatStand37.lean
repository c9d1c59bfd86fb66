/- The law NamesStand holds: for every text and every number the law returns true, and its arguments read as before. No condition. Part 37: Path Get At2. -/
import Derived.Test.YtoepemlnlpamlaaGreatStand21
import Derived.Test.YtoepemlnlpamlaaGreatStand34
import Derived.Test.YtoepemlnlpamlaaGreatStand36
set_option maxRecDepth 100000
set_option maxHeartbeats 4000000
namespace Go.Proofs.YtoepemlnlpamlaaGreat
open Go.RowKit
def dX:aa->List Nat->Option aa
 | t,[]=>some t
 | t,i::p=>(t.kids[i]?).bind fun k=>dX k p
theorem Cf:∀{p:List Nat}{t y z:aa}{i:Nat},dX t p=some y->y.kids[i]? =some z->dX t (p++[i])=some z
 | [],t,y,z,i,h,hz=>by
  simp only[dX,aag]at h;subst h;simp[dX,hz]
 | j::p,t,y,z,i,h,hz=>by
  rw[dX]at h;rw[List.cons_append,dX]
  cases hk:t.kids[j]? with
  | none=>rw[hk]at h;cases h
  | some k=>
   rw[hk]at h;exact Cf (p:=p) h hz
def oG:aa->List Nat->Nat
 | _,[]=>0
 | t,i::p=>match t.kids[i]? with
  | none=>0
  | some k=>1+ag (t.kids.take i)+oG k p
theorem Mm:∀{p:List Nat}{t y z:aa}{i:Nat},dX t p=some y->y.kids[i]? =some z->oG t (p++[i])=oG t p+(1+ag (y.kids.take i))
 | [],t,y,z,i,h,hz=>by
  simp only[dX,aag]at h;subst h;simp[oG,hz]
 | j::p,t,y,z,i,h,hz=>by
  rw[dX]at h;rw[List.cons_append,oG,oG]
  cases hk:t.kids[j]? with
  | none=>rw[hk]at h;cases h
  | some k=>
   rw[hk]at h;have:=Mm (p:=p) (t:=k) h hz;simp only;omega
def xW(p:List Nat):List Value:=p.map (fun(i:Nat)=>Value.int .i64 (i:Int))
theorem Rb{ts:List aa}{i j:Nat}{y:aa}(h:(aX (ts.drop i))[j]? =some y):
 ∃z,ts[i]? =some z/\((ai z<=j/\(aX (ts.drop (i+1)))[j - ai z]? =some y)\/(j<ai z/\(bL z)[j]? =some y)):=by
 cases hd:ts.drop i with
 | nil=>rw[hd]at h;simp[aX]at h
 | cons z r=>
  have hz:ts[i]? =some z:=by
   have:=congrArg (fun l=>l[0]?) hd;simpa using this
  have hr:ts.drop (i+1)=r:=by
   have:=congrArg (List.drop 1) hd;rw[List.drop_drop]at this;rw[this];rfl
  rw[hd,aX]at h;refine⟨z,hz,?_⟩;by_cases hj:j<ai z
  ·rw[List.getElem?_append_left (by rw[dz];exact hj)]at h
   exact .inr ⟨hj,h⟩
  ·rw[aal (by rw[dz];omega),dz]at h
   exact .inl ⟨by omega,by rw[hr];exact h⟩
theorem ak.sI{w:World}{g:Nat}{t:TypeId}{a0 b0 c0 d0 e0:Value}(h:ak w g t #[a0,b0,c0,d0,e0])(a b c d e:Value):ak (bZ w g a b c d e) g t #[a,b,c,d,e]:=by
 have:=((((h.gY 0 a).gY 1 b).gY 2 c).gY 3 d).gY 4 e;unfold bZ;simpa using this
theorem kP{w:World}{g:Nat}{a b c d e:Value}:aA (fun x=>x=g) w (bZ w g a b c d e):=by
 unfold bZ;exact(((((aA.refl (fun x=>x=g) w).setCell (.inl rfl) _).setCell (.inl rfl) _).setCell (.inl rfl) _).setCell (.inl rfl) _).setCell (.inl rfl) _
theorem Zp(t:aa)(A:Option Addr)(c:Nat)(num:Int)(w:World)(hN:ai t<=1000000)(hcap:t.kids.length<=c)(hk:aK w w.heap.size A 0 t.kids):
 Calls Tryz.prog 23 #[bB t A c,.int .i64 num] w fun e w'=>
  (e= .returned (.tuple #[.slice none 0 0,.bool false])/\Below w.heap.size w w'/\(num<0\/(ai t:Int)<=num)) \/
  (∃m p y PA pc,num=((m:Nat):Int)/\e= .returned (.tuple #[.slice PA (List.length p) pc,.bool true])/\(bL t)[m]? =some y/\dX t p=some y/\p.length<=1000000/\aP w' w.heap.size 3 1 (.slice PA p.length pc) p.length (xW p)/\Below w.heap.size w w'/\oG t p=m):=by
 obtain⟨i0,hi0,hz0,hz1,hz2⟩:=info_parts Ag;obtain⟨k0,x0,a0,z0,n0,-,-,-,-,hn0,ji⟩:=gD t A c;rw[ji];obtain⟨W1,hW1⟩:∃W1,w.alloc (.cells #[.int .i64 k0,.string x0,.int .i64 a0,.int .i64 z0,.slice A n0 c] 24)=W1:=⟨_,rfl⟩
 have hnb:ak W1 w.heap.size 24 #[.int .i64 k0,.string x0,.int .i64 a0,.int .i64 z0,.slice A n0 c]:=by rw[<- hW1];exact ak.new w _ _
 have hb1:Below w.heap.size w W1:=by rw[<- hW1];exact ae w _
 have hcount:=Dy (ai t) t A c W1 (aab _) (by omega) (aK.mono hb1.size _ _ _ (aK.below hb1 (aab _) _ _ _ hk));rw[ji]at hcount;obtain⟨ct,hct⟩:∃q,ai t=q:=⟨_,rfl⟩
 rw[hct]at hcount hN;have lV:=kH hnb;have HB1:=kH hb1;have HC:=kH hcount;have HCT:=kH hct;have HK:=kH hk;have HCAP:=kH hcap;have HN0:=kH hn0;have m0:=hnb.cell 0;have m1:=hnb.cell 1;have m2:=hnb.cell 2;have m3:=hnb.cell 3;have m4:=hnb.cell 4;have lm:=hnb.lt;have mD:Hid ((#[.int .i64 t.kind,.string t.text,.int .i64 t.at_,.int .i64 t.end_,.slice A t.kids.length c]:Array Value)= #[.int .i64 k0,.string x0,.int .i64 a0,.int .i64 z0,.slice A n0 c]):=kH (by unfold bB at ji;injection ji);clear hcount hnb hb1 hct hk hcap hn0 ji;by_cases hneg:num<0
 ·go_enter Tryz.func23,Tryz.ntmps23
  go_wp2_with (rw[hW1])
  try simp only[Exit.inBlock,Exit.then]
  refine bodyPost_ret (v:=.tuple #[.slice none 0 0,.bool false]) (by simp[results,Tryz.results23,go_sem]) rfl ?_;exact .inl ⟨rfl,HB1.out,.inl (by first|exact hneg|omega)⟩
 ·obtain⟨m,rfl⟩:=Int.eq_ofNat_of_zero_le (Int.not_lt.1 hneg)
  have hneg':¬((m:Int)<0):=by omega
  clear hneg;go_enter Tryz.func23,Tryz.ntmps23
  go_wp2_with (rw[hW1])
  refine HC.out.mono ?_;rintro e w2 ⟨rfl,hb2⟩;have HB2:Hid (Below w.heap.size w w2):=kH (HB1.out.trans (hb2.mono HB1.out.size));have hn2:=lV.out.below hb2 lV.out.lt;clear hW1 m0 m1 m2 m3 m4 lm hb2;by_cases hge:ct<=m
  ·have hge':(ct:Int)<=(m:Int):=by omega
   go_wp2_with fail
   try simp only[Exit.inBlock,Exit.then]
   refine bodyPost_ret (v:=.tuple #[.slice none 0 0,.bool false]) (by simp[results,Tryz.results23,go_sem]) rfl ?_;exact .inl ⟨rfl,HB2.out,.inr (by rw[HCT.out];omega)⟩
  ·have hlt:(m:Int)<(ct:Int):=by omega
   obtain⟨y,hy⟩:∃y,(bL t)[m]? =some y:=⟨_,aaf (by rw[dz,HCT.out];omega)⟩
   have HY:=kH hy;have vS:=kH hn2;have hw1:IntKind.i64.wrap ((m:Int) - 1)=(m:Int) - 1:=IntWalk.i64_in _ (by omega);clear hy hn2;go_wp2_with fail
   obtain⟨W3,hW3⟩:∃W3,w2.alloc (.cells #[] 3)=W3:=⟨_,rfl⟩
   have hb3:Below w2.heap.size w2 W3:=by rw[<- hW3];exact ae w2 _
   have Sg:ak W3 w2.heap.size 3 #[]:=by rw[<- hW3];exact ak.new w2 _ _
   have ho3:aP W3 (w.heap.size+1) 3 1 (.slice (some ⟨w2.heap.size,0,none⟩) 0 0) 0 []:=aP.block (n:=0) (cur:=#[]) vS.out.lt Sg (by simp[maxLen]) rfl;have jQ:=vS.out.below hb3 vS.out.lt;have HB3:Hid (Below w.heap.size w W3):=kH (HB2.out.trans (hb3.mono HB2.out.size));have SF:=kH ho3;have lG:=kH jQ;clear hb3 Sg ho3 jQ;rw[hW3];clear hW3;go_loopg [1,6] (m+1) (fun gk s1 s6 wr=> ∃(u:aa) (Au:Option Addr) (cu k:Nat) (p:List Nat) (PA:Option Addr) (pc:Nat),k<gk/\s1= .int .i64 ((k:Int) - 1)/\s6= .slice PA p.length pc/\Below w.heap.size w wr/\ak wr w.heap.size 24 #[.int .i64 u.kind,.string u.text,.int .i64 u.at_,.int .i64 u.end_,.slice Au u.kids.length cu]/\aP wr (w.heap.size+1) 3 1 (.slice PA p.length pc) p.length (xW p)/\dX t p=some u/\(bL u)[k]? =some y/\aK w w.heap.size Au 0 u.kids/\p.length+ai u<=ct/\oG t p+k=m)
   case atStart=>
    exact⟨t,A,c,m,[],some ⟨w2.heap.size,0,none⟩,0,by omega,rfl,rfl,HB3.out,by have:=lG.out;have h5:=mD.out;rw[h5];exact this,SF.out,rfl,HY.out,HK.out,by have:=HCT.out;simp;omega,by simp[oG]⟩
   case round=>
    obtain⟨u,Au,cu,k,p,PA,pc,hkg,rfl,rfl,hB,Cu,hO,hF,hY,GY,qa,uO⟩:=hrel;obtain⟨wo,hwo⟩:∃wo:World,wo=wr:=⟨_,rfl⟩
    subst hwo;obtain⟨go,hgo⟩:∃go:Nat,go=gk:=⟨_,rfl⟩
    subst hgo
    cases k with
    | zero=>
     have e0:(((0:Nat):Int) - 1)= -1:=rfl;rw[e0];have hyu:u=y:=by rw[kC]at hY;simpa using hY
     subst hyu;obtain⟨pn,hpn⟩:∃q,p.length=q:=⟨_,rfl⟩
     have bC:Hid (∃m' p' y' PA' pc',(m:Int)=((m':Nat):Int)/\Ending.returned (.tuple #[.slice PA pn pc,.bool true])= .returned (.tuple #[.slice PA' (List.length p') pc',.bool true])/\(bL t)[m']? =some y'/\dX t p'=some y'/\p'.length<=1000000/\aP wo w.heap.size 3 1 (.slice PA' p'.length pc') p'.length (xW p')/\Below w.heap.size w wo/\oG t p'=m'):=kH ⟨m,p,u,PA,pc,rfl,by rw[hpn],HY.out,hF,by omega,hO.mono (by omega),hB,by omega⟩;rw[hpn];clear hO hF hB Cu GY qa hpn hY hkg uO;go_wp2_with fail
     try simp only[Exit.inBlock,Exit.then]
     refine bodyPost_ret (v:=.tuple #[.slice PA pn pc,.bool true]) (by simp[results,Tryz.results23,go_sem]) rfl ?_;exact .inr bC.out
    | succ k=>
     have e0:(((k+1:Nat):Int) - 1)=(k:Int):=by omega
     rw[e0];have hkn:k+1<ai u:=by rw[<- dz];exact(aah.1 hY).1
     have hY':(aX (u.kids.drop 0))[k]? =some y:=by rw[kC]at hY;simpa using hY
     have HY':=kH hY';have hkb:k<=1000000:=by omega
     have hbig:ai u<=1000000:=by omega
     have hpl:p.length+1<=ct:=by omega
     obtain⟨n,hn⟩:∃q,u.kids.length=q:=⟨_,rfl⟩
     obtain⟨pn,hpn⟩:∃q,p.length=q:=⟨_,rfl⟩
     obtain⟨ku,Cr⟩:∃q,u.kind=q:=⟨_,rfl⟩
     obtain⟨xu,hxu⟩:∃q,u.text=q:=⟨_,rfl⟩
     obtain⟨au,Ct⟩:∃q,u.at_=q:=⟨_,rfl⟩
     obtain⟨zu,hzu⟩:∃q,u.end_=q:=⟨_,rfl⟩
     rw[hn,Cr,hxu,Ct,hzu]at Cu;rw[hpn]at hO hpl⊢;have hnk:n<=1000000:=by have h1:=dU u.kids;have h2:=jO u;omega
     have HB:=kH hB;have SG:=kH Cu;have HO:=kH hO;have HF:=kH hF;have HKu:=kH GY;have HN:=kH hn;have QG:=kH hpn;have XL:=kH qa;have HKG:=kH hkg;have FO:=kH uO;have b4:=Cu.cell 4;have lb:=Cu.lt;have hk0':(0:Int)<=(k:Int):=by omega
     clear hB Cu hO hF GY hn hpn qa hkg hY hY' hkn e0 Cr hxu Ct hzu uO;go_wp2_with fail
     go_loopg [1,7] n (fun gi s1 s7 wi=> ∃i j:Nat,s1= .int .i64 (j:Int)/\s7= .int .i64 (i:Int)/\i+gi=n/\j<=k/\(aX (u.kids.drop i))[j]? =some y/\Below wo.heap.size wo wi/\j+ag (u.kids.take i)=k)
     case atStart=>exact⟨0,k,rfl,rfl,by omega,aab _,HY'.out,Below.refl _ _,by simp[ag]⟩
     case round=>
      obtain⟨i,j,rfl,rfl,hin,hjk,hyj,hBi,hjs⟩:=hrel;obtain⟨z,hz,halt⟩:=Rb hyj;obtain⟨vals,⟨b,off,hA,hbl,hcs⟩,hT⟩:=HKu.out.get i z hz;rw[Nat.zero_add]at hcs;obtain⟨Az,cz,lh,Sd⟩:=hT.five;subst hA;subst lh;have hlt:i<n:=by rw[<- HN.out];exact(aah.1 hz).1
      have hBw:=HB.out.trans (hBi.mono HB.out.size);obtain⟨kz,xz,az,ez,zn,hk5,hx5,ha5,he5,Ai,hnv5⟩:=gD z Az cz;rw[hk5,hx5,ha5,he5,Ai]at hcs;have Cs:∀(q:Nat) (v:Value),[Value.int .i64 kz,.string xz,.int .i64 az,.int .i64 ez,.slice Az zn cz][q]? =some v->w.cell? ⟨b,off+i*5+q,none⟩=some v:=fun q v hq=>hcs q v hq
      have hup:∀wx,Below w.heap.size w wx->wx.cell? ⟨b,off+i*5,none⟩=some (.int .i64 kz)/\wx.cell? ⟨b,off+i*5+1,none⟩=some (.string xz)/\wx.cell? ⟨b,off+i*5+2,none⟩=some (.int .i64 az)/\wx.cell? ⟨b,off+i*5+3,none⟩=some (.int .i64 ez)/\wx.cell? ⟨b,off+i*5+4,none⟩=some (.slice Az zn cz):=fun wx hb=>⟨(hb.cell (p:=⟨b,_,none⟩) hbl).trans (by simpa using Cs 0 _ rfl),(hb.cell (p:=⟨b,_,none⟩) hbl).trans (Cs 1 _ rfl),(hb.cell (p:=⟨b,_,none⟩) hbl).trans (Cs 2 _ rfl),(hb.cell (p:=⟨b,_,none⟩) hbl).trans (Cs 3 _ rfl),(hb.cell (p:=⟨b,_,none⟩) hbl).trans (Cs 4 _ rfl)⟩
      have hczm:ai z<=ai u:=by
       have h1:=gP u.kids i z hz;have h2:=iZ u.kids (i+1);have h3:=jO u;omega
      have hcall:∀wx,Below w.heap.size w wx->Calls Tryz.prog 39 #[.agg #[.int .i64 kz,.string xz,.int .i64 az,.int .i64 ez,.slice Az zn cz]] wx fun e w'=>e= .returned (.int .i64 (ai z:Int))/\Below wx.heap.size wx w':=fun wx hb=>by
       have:=Dy (ai z) z Az cz wx (aab _) (by omega) (aK.mono hb.size _ _ _ (aK.below hb (aab _) _ _ _ Sd));rw[hnv5]at this;exact this
      obtain⟨cc,hcc⟩:∃q,ai z=q:=⟨_,rfl⟩
      rw[hcc]at hcall halt;have hccb:cc<=1000000:=by omega
      have hbi:=SG.out.below hBi SG.out.lt;have d4:=hbi.cell 4;have li:=hbi.lt;obtain⟨t0,t1,t2,t3,t4⟩:=hup _ hBw;have lz:b<wr.heap.size:=Nat.lt_of_lt_of_le hbl hBw.size;have HBI:=kH hBi;have oD:=kH hBw;have HUP:=kH hup;have jD:=kH hcall;have HZ:Hid (u.kids[i]? =some z/\ai z=cc/\ai z<ai u/\aK w w.heap.size Az 0 z.kids/\z.kind=kz/\z.text=xz/\z.at_=az/\z.end_=ez/\z.kids.length=zn):=kH ⟨hz,hcc,by have h1:=gP u.kids i z hz;have h2:=iZ u.kids (i+1);have h3:=jO u;omega,Sd,hk5,hx5,ha5,he5,Ai⟩;have Bn:=kH hin;have hini:(i:Int)<(n:Int):=by omega
      have hw2:IntKind.i64.wrap ((i:Int)+1)=(i:Int)+1:=IntWalk.i64_in _ (by omega);have hw3:IntKind.i64.wrap ((j:Int) - (cc:Int))=(j:Int) - (cc:Int):=IntWalk.i64_in _ (by omega);have hw4:IntKind.i64.wrap ((j:Int) - 1)=(j:Int) - 1:=IntWalk.i64_in _ (by omega);have HJK:=kH hjk;have uI:Hid (j+ag (u.kids.take i)=k/\ag (u.kids.take (i+1))=ag (u.kids.take i)+cc):=kH ⟨hjs,by rw[gP u.kids i z hz,hcc]⟩;clear hyj hz hcs hT Sd Cs hup hcall hbi hBi hBw hczm hcc hk5 hx5 ha5 he5 Ai hnv5 hin hbig hjs;rcases halt with⟨hle,hnext⟩| ⟨hltc,hdown⟩
      ·have aZ:=kH hnext
       have hlei:(cc:Int)<=(j:Int):=by omega
       clear hnext;go_wp2_with fail
       refine(jD.out _ oD.out).mono ?_;rintro e w5 ⟨rfl,hb5⟩;have fT:Hid (Below w.heap.size w w5):=kH (oD.out.trans (hb5.mono oD.out.size));have LM:Hid (Below wo.heap.size wo w5):=kH (HBI.out.trans (hb5.mono HBI.out.size));have hbi:=SG.out.below LM.out SG.out.lt;have d4':=hbi.cell 4;have li':=hbi.lt;obtain⟨q0,q1,q2,q3,q4⟩:=HUP.out _ fT.out;have lz':b<w5.heap.size:=Nat.lt_of_lt_of_le lz hb5.size;clear hb5 hbi t0 t1 t2 t3 t4 d4 li lz;go_wp2_with fail
       refine(jD.out _ fT.out).mono ?_;rintro e w6 ⟨rfl,hb6⟩;have HBI6:Hid (Below wo.heap.size wo w6):=kH (LM.out.trans (hb6.mono LM.out.size));clear hb6 q0 q1 q2 q3 q4 d4' li' lz';go_wp2_with fail
       go_roundg (gk - 1)
       case measure=>have:=Bn.out;omega
       case rel=>exact⟨i+1,j - cc,by congr 1;omega,by simp,by have:=Bn.out;omega,by have:=HJK.out;omega,aZ.out,HBI6.out,by have:=uI.out;omega⟩
      ·have HDN:=kH hdown
       have hlti:(j:Int)<(cc:Int):=by omega
       clear hdown;go_wp2_with fail
       refine(jD.out _ oD.out).mono ?_;rintro e w5 ⟨rfl,hb5⟩;have fT:Hid (Below w.heap.size w w5):=kH (oD.out.trans (hb5.mono oD.out.size));have LM:Hid (Below wo.heap.size wo w5):=kH (HBI.out.trans (hb5.mono HBI.out.size));have hbi:=SG.out.below LM.out SG.out.lt;have CE:=kH hbi;have jY:aP w5 (w.heap.size+1) 3 1 (.slice PA pn pc) pn (xW p):=HO.out.below LM.out (fun g hg=>(HO.out.lt g hg).2);have zm:=kH jY;clear hb5 hbi t0 t1 t2 t3 t4 d4 li lz jY;go_wp2_with fail
       have b4':w5.cell? ⟨w.heap.size,4,none⟩=some (.slice (some ⟨b,off,none⟩) n cu):=CE.out.cell 4;have lb5:=CE.out.lt;have gz:∀w',Below w.heap.size w w'->w'.cell? ⟨w.heap.size,4,none⟩=some (.slice (some ⟨b,off,none⟩) n cu)->(w'.cell? ⟨w.heap.size,4,none⟩=some (.slice (some ⟨b,off,none⟩) n cu)/\w'.cell? ⟨b,off+i*5,none⟩=some (.int .i64 kz)/\w'.cell? ⟨b,off+i*5+1,none⟩=some (.string xz)/\w'.cell? ⟨b,off+i*5+2,none⟩=some (.int .i64 az)/\w'.cell? ⟨b,off+i*5+3,none⟩=some (.int .i64 ez)/\w'.cell? ⟨b,off+i*5+4,none⟩=some (.slice Az zn cz)):=fun w' hb h4=>⟨h4,HUP.out _ hb⟩
       have hS0:=gz w5.drew fT.out.drew b4';refine Ep (fun w'=>w'.cell? ⟨w.heap.size,4,none⟩=some (.slice (some ⟨b,off,none⟩) n cu)/\w'.cell? ⟨b,off+i*5,none⟩=some (.int .i64 kz)/\w'.cell? ⟨b,off+i*5+1,none⟩=some (.string xz)/\w'.cell? ⟨b,off+i*5+2,none⟩=some (.int .i64 az)/\w'.cell? ⟨b,off+i*5+3,none⟩=some (.int .i64 ez)/\w'.cell? ⟨b,off+i*5+4,none⟩=some (.slice Az zn cz)) (fun _=>True) [9,10,12,13] [(9,0),(10,0),(0,1),(1,1),(4,1),(5,1),(6,1),(7,1),(8,1),(2,2),(3,2),(11,2),(12,2),(13,2)] (by kernel_rfl) (by kernel_rfl) rfl (by kernel_rfl) ?_;iterate 2(refine Ti (by simp only[aak,aaj,aai];rfl) (by rfl) trivial (by intro w' hSw;go_simp;rfl) ?_;simp only[Act.put,sA,sZ,sC])
       refine vX (by simp only[aak,aai];rfl) (by rfl) ⟨trivial,hS0⟩ (by intro w' hSw;obtain⟨-,hs0,hs1,hs2,hs3,hs4,hs5⟩:=hSw;go_simp;rfl) ?_;iterate 6(simp only[Act.put,sA,sZ,sC];refine vX (by simp only[aak,aaj,aai];rfl) (by rfl) ⟨trivial,hS0⟩ (by intro w' hSw;obtain⟨-,hs0,hs1,hs2,hs3,hs4,hs5⟩:=hSw;go_simp;rfl) ?_)
       simp only[Act.put,sA,sZ,sC];refine Hw (w':=w5.drew.alloc (.cells #[.int .i64 (i:Int)] 3)) (by simp only[aak,aaj,aai];rfl) (by rfl) (by go_simp;rfl) trivial (fun _=>gz _ (fT.out.drew.alloc fT.out.size _) (by go_simp)) ?_;simp only[Act.put,sA,sZ,sC];refine XQ (by simp only[aak,aaj,aai];rfl) (by rfl) ?_;refine(jI _ (.tmp 39) (.tmp 41) _ rfl (w.heap.size+1) 3 i0 _ 1 8 Tryz.underlying28 hi0 hz0 hz1 hz2 rfl (.slice PA pn pc) pn (xW p) rfl (zm.out.drew.alloc _) ⟨w5.heap.size,0,none⟩ 1 1 [.int .i64 (i:Int)] rfl rfl (Db _ _ _ (by go_simp)) (by simp[Value.oneCell']) (by simp only[maxLen];omega) (by omega) (by simp;omega) ?_);intro v6 w6 hown hgrow hat;obtain⟨A6,c6,hv6,-,-⟩:=hown.shape;subst hv6;have hne:some w.heap.size≠(Value.slice PA pn pc).ownBlock:=fun h=>by have:=(zm.out.lt _ h.symm).1;omega
       have WQ:ak w6 w.heap.size 24 _:=ak.grown (CE.out.drew.alloc _) hgrow hne;have hs6:aA (fun g=>w.heap.size+1<=g) w5.drew w6:=((aA.refl (fun g=>w.heap.size+1<=g) w5.drew).alloc _).grown hgrow (fun g hg=>.inl (zm.out.lt g hg).1);have hb6:Below w.heap.size w w6:=fT.out.drew.trans (hs6.toBelow fT.out.size (fun g hg=>by omega));have ma:=gz w6 hb6 (WQ.cell 4);refine⟨⟨trivial,fun _=>ma⟩,?_⟩;simp only[Act.put,sA,sZ,sC];obtain⟨-,g0,g1,g2,g3,g4⟩:=WQ.five;obtain⟨⟨y0,y1,y2,y3,y4⟩,-⟩:=WQ.five;refine Hw (w':=w6) (by simp only[aak,aaj,aai];rfl) (by rfl) (by go_simp;rfl) trivial (fun _=>ma) ?_;simp only[Act.put,sA,sZ,sC];refine LQ (w':=bZ w6 w.heap.size (.int .i64 kz) (.string xz) (.int .i64 az) (.int .i64 ez) (.slice Az zn cz)) (by simp only[aak,aaj,aai];rfl) (by rfl) (by go_simp;rfl) trivial (fun h=>by cases h) ?_;simp only[Act.put];refine Hw (w':=bZ w6 w.heap.size (.int .i64 kz) (.string xz) (.int .i64 az) (.int .i64 ez) (.slice Az zn cz)) (by simp only[aak,aaj,aai];rfl) (by rfl) (by go_simp;rfl) trivial (fun h=>by cases h) ?_;simp only[Act.put,sA,sZ,sC];refine NI ?_;obtain⟨W7,uF⟩:∃W7,bZ w6 w.heap.size (.int .i64 kz) (.string xz) (.int .i64 az) (.int .i64 ez) (.slice Az zn cz)=W7:=⟨_,rfl⟩
       have hs7:aA (fun x=>x=w.heap.size) w6 W7:=by rw[<- uF];exact kP
       have sP:ak W7 w.heap.size 24 #[.int .i64 kz,.string xz,.int .i64 az,.int .i64 ez,.slice Az zn cz]:=by rw[<- uF];exact ak.sI WQ _ _ _ _ _
       have dQ:Below w.heap.size w W7:=hb6.trans (hs7.toBelow hb6.size (fun g hg=>by omega))
       have ze:aP W7 (w.heap.size+1) 3 1 (.slice A6 (pn+1) c6) (pn+1) (xW (p++[i])):=by
        have h1:=hown.since hs7 (fun g hg hq=>by have:=(hown.lt g hg).1;omega);have h2:xW (p++[i])=xW p++[.int .i64 (i:Int)]:=by simp[xW]
        rw[h2];exact h1
       have xg:=kH sP;have gT:=kH dQ;have xe:=kH ze;rw[uF];clear uF hs7 sP dQ ze hown hgrow hat hne WQ hs6 hb6 ma gz hS0 g0 g1 g2 g3 g4 y0 y1 y2 y3 y4 b4' lb5 b4 lb;go_wp2_with fail
       go_roundg (go - 1)
       case measure=>have:=HKG.out;omega
       case rel=>
        obtain⟨z1,z2,z3,z4,z5,z6,z7,z8,z9⟩:=HZ.out;have hpl':(p++[i]).length=pn+1:=by rw[aam,QG.out];rfl
        refine⟨z,Az,cz,j,p++[i],A6,c6,?_,by simp,by rw[hpl'],gT.out,?_,?_,Cf HF.out z1,HDN.out,z4,?_,?_⟩
        ·have:=HKG.out;have:=HJK.out;omega
        ·rw[z5,z6,z7,z8,z9];exact xg.out
        ·rw[hpl'];exact xe.out
        ·rw[hpl'];have:=XL.out;have:=QG.out;omega
        ·rw[Mm HF.out z1];have:=FO.out;have:=uI.out;omega
def nG(i:Nat):List Value:=[.int .i64 (i:Int)]
theorem Rj{p:List Nat}{u y:aa}{i:Nat}(h:dX u (p.drop i)=some y){q:Nat}(hq:p[i]? =some q):∃z,u.kids[q]? =some z/\dX z (p.drop (i+1))=some y:=by
 have hd:p.drop i=q::p.drop (i+1):=by
  have hlt:i<p.length:=(aah.1 hq).1;rw[List.drop_eq_getElem_cons hlt];rw[aaf hlt]at hq;rw[Option.some.inj hq]
 rw[hd,dX]at h
 cases hz:u.kids[q]? with
 | none=>rw[hz]at h;cases h
 | some z=>rw[hz]at h;exact⟨z,rfl,h⟩
theorem Td(t y:aa)(A:Option Addr)(c:Nat)(p:List Nat)(PA:Option Addr)(pc:Nat)(w:World)(hN:t.kids.length<=c)(hpl:p.length<=1000000)(hk:aK w w.heap.size A 0 t.kids)(hrow:df 1 nG w w.heap.size PA p)(hf:dX t p=some y):
 Calls Tryz.prog 24 #[bB t A c,.slice PA p.length pc] w fun e w'=> ∃Ay cy,e= .returned (.tuple #[bB y Ay cy,.bool true])/\aK w w.heap.size Ay 0 y.kids/\y.kids.length<=cy/\Below w.heap.size w w':=by
 obtain⟨k0,x0,a0,z0,n0,hk0,hx0,ha0,hz0,hn0,ji⟩:=gD t A c;rw[ji];obtain⟨n,hn⟩:∃q,p.length=q:=⟨_,rfl⟩
 rw[hn]at hpl⊢;have HK:=kH hk;have za:=kH hrow;have HF:=kH hf;have HN:=kH hn;have HT:Hid (t.kind=k0/\t.text=x0/\t.at_=a0/\t.end_=z0/\t.kids.length=n0/\n0<=c):=kH ⟨hk0,hx0,ha0,hz0,hn0,by omega⟩;clear hk hrow hf hn hk0 hx0 ha0 hz0 hn0 ji hN;go_enter Tryz.func24,Tryz.ntmps24
 go_wp2_with fail
 obtain⟨W2,hW2⟩:∃W2,(w.alloc (.cells #[.int .i64 k0,.string x0,.int .i64 a0,.int .i64 z0,.slice A n0 c] 24)).alloc (.cells #[.int .i64 0,.string ⟨#[]⟩,.int .i64 0,.int .i64 0,.slice none 0 0] 24)=W2:=⟨_,rfl⟩
 have hb2:Below w.heap.size w W2:=by rw[<- hW2];exact((Below.refl _ w).alloc (aab _) _).alloc (by simp) _
 have rf:ak W2 w.heap.size 24 #[.int .i64 k0,.string x0,.int .i64 a0,.int .i64 z0,.slice A n0 c]:=by rw[<- hW2];exact(ak.new w _ _).alloc _
 have hR2:ak W2 (w.heap.size+1) 24 #[.int .i64 0,.string ⟨#[]⟩,.int .i64 0,.int .i64 0,.slice none 0 0]:=by
  rw[<- hW2];have:=ak.new (w.alloc (.cells #[.int .i64 k0,.string x0,.int .i64 a0,.int .i64 z0,.slice A n0 c] 24)) 24 #[.int .i64 0,.string ⟨#[]⟩,.int .i64 0,.int .i64 0,.slice none 0 0];simpa using this
 have HB2:=kH hb2;have vS:=kH rf;have HR2:=kH hR2;rw[hW2];clear hb2 rf hR2 hW2;go_loopg [6] n (fun gk s6 wr=> ∃(i:Nat) (u:aa) (Au:Option Addr) (cu:Nat),s6= .int .i64 (i:Int)/\i+gk=n/\Below w.heap.size w wr/\ak wr w.heap.size 24 #[.int .i64 u.kind,.string u.text,.int .i64 u.at_,.int .i64 u.end_,.slice Au u.kids.length cu]/\ak wr (w.heap.size+1) 24 #[.int .i64 0,.string ⟨#[]⟩,.int .i64 0,.int .i64 0,.slice none 0 0]/\dX u (p.drop i)=some y/\aK w w.heap.size Au 0 u.kids/\u.kids.length<=cu)
 case atStart=>
  obtain⟨g1,g2,g3,g4,g5,g6⟩:=HT.out;exact⟨0,t,A,c,rfl,by omega,HB2.out,by rw[g1,g2,g3,g4,g5];exact vS.out,HR2.out,HF.out,HK.out,by omega⟩
 case round=>
  obtain⟨i,u,Au,cu,rfl,hin,hB,Cu,hR,hF,GY,qa⟩:=hrel;obtain⟨nu,hnu⟩:∃q,u.kids.length=q:=⟨_,rfl⟩
  obtain⟨ku,Cr⟩:∃q,u.kind=q:=⟨_,rfl⟩
  obtain⟨xu,hxu⟩:∃q,u.text=q:=⟨_,rfl⟩
  obtain⟨au,Ct⟩:∃q,u.at_=q:=⟨_,rfl⟩
  obtain⟨zu,hzu⟩:∃q,u.end_=q:=⟨_,rfl⟩
  rw[hnu,Cr,hxu,Ct,hzu]at Cu;have hib:i<=n:=by omega
  have Bn:=kH hin;have HB:=kH hB;have uJ:=kH Cu;have HR:=kH hR;have HKU:=kH GY;have HU:Hid (u.kind=ku/\u.text=xu/\u.at_=au/\u.end_=zu/\u.kids.length=nu/\nu<=cu):=kH ⟨Cr,hxu,Ct,hzu,hnu,by omega⟩;obtain⟨⟨b0,b1,b2,b3,b4⟩,f0,f1,f2,f3,f4⟩:=Cu.five;have lb:=Cu.lt;by_cases hlt:i<n
  ·obtain⟨q,hq⟩:∃q,p[i]? =some q:=⟨_,aaf (by rw[HN.out];exact hlt)⟩
   obtain⟨z,hz,hfz⟩:=Rj hF hq;obtain⟨rb,ro,WL,hrb,hrc⟩:=za.out i q hq;subst WL;obtain⟨vals,⟨b,off,hA,hbl,hcs⟩,hTz⟩:=GY.get q z hz;rw[Nat.zero_add]at hcs;obtain⟨Az,cz,lh,Sd⟩:=hTz.five;subst hA;subst lh;have kJ:q<nu:=by rw[<- hnu];exact(aah.1 hz).1
   obtain⟨kz,hkz⟩:∃q,z.kind=q:=⟨_,rfl⟩
   obtain⟨xz,hxz⟩:∃q,z.text=q:=⟨_,rfl⟩
   obtain⟨az,haz⟩:∃q,z.at_=q:=⟨_,rfl⟩
   obtain⟨ez,hez⟩:∃q,z.end_=q:=⟨_,rfl⟩
   obtain⟨zn,hzn⟩:∃q,z.kids.length=q:=⟨_,rfl⟩
   rw[hkz,hxz,haz,hez,hzn]at hcs;have hr0:wr.cell? ⟨rb,ro+i,none⟩=some (.int .i64 (q:Int)):=(hB.cell (p:=⟨rb,_,none⟩) hrb).trans (by simpa using hrc 0 _ rfl);have t0:wr.cell? ⟨b,off+q*5,none⟩=some (.int .i64 kz):=(hB.cell (p:=⟨b,_,none⟩) hbl).trans (by simpa using hcs 0 _ rfl);have t1:wr.cell? ⟨b,off+q*5+1,none⟩=some (.string xz):=(hB.cell (p:=⟨b,_,none⟩) hbl).trans (hcs 1 _ rfl);have t2:wr.cell? ⟨b,off+q*5+2,none⟩=some (.int .i64 az):=(hB.cell (p:=⟨b,_,none⟩) hbl).trans (hcs 2 _ rfl);have t3:wr.cell? ⟨b,off+q*5+3,none⟩=some (.int .i64 ez):=(hB.cell (p:=⟨b,_,none⟩) hbl).trans (hcs 3 _ rfl);have t4:wr.cell? ⟨b,off+q*5+4,none⟩=some (.slice Az zn cz):=(hB.cell (p:=⟨b,_,none⟩) hbl).trans (hcs 4 _ rfl);have hini:(i:Int)<(n:Int):=by omega
   have hq0:¬((q:Int)<0):=by omega
   have hqi:(q:Int)<(nu:Int):=by omega
   have hcz:z.kids.length<=cz:=by
    have:=hTz
    cases z with
    | node k' t' a' e' kids'=>
     obtain⟨A',c',h1,h2,-⟩:=this;simp only[List.cons.injEq,Value.slice.injEq,and_true]at h1;obtain⟨-,-,-,-,-,-,rfl⟩:=h1;exact h2
   have HFZ:=kH hfz;have HZ:Hid (z.kind=kz/\z.text=xz/\z.at_=az/\z.end_=ez/\z.kids.length=zn/\z.kids.length<=cz/\aK w w.heap.size Az 0 z.kids):=kH ⟨hkz,hxz,haz,hez,hzn,hcz,Sd⟩;have hw1:IntKind.i64.wrap ((i:Int)+1)=(i:Int)+1:=IntWalk.i64_in _ (by omega);clear hin hB Cu hR hF GY qa hz hfz hq hrc hrb hcs hTz Sd hcz hkz hxz haz hez hzn Cr hxu Ct hzu hnu;go_wp2_with fail
   go_quiet (fail)
   go_wp2_with fail
   refine gN (fun w'=>w'.cell? ⟨w.heap.size,4,none⟩=some (.slice (some ⟨b,off,none⟩) nu cu)/\w'.cell? ⟨rb,ro+i,none⟩=some (.int .i64 (q:Int))/\w'.cell? ⟨b,off+q*5,none⟩=some (.int .i64 kz)/\w'.cell? ⟨b,off+q*5+1,none⟩=some (.string xz)/\w'.cell? ⟨b,off+q*5+2,none⟩=some (.int .i64 az)/\w'.cell? ⟨b,off+q*5+3,none⟩=some (.int .i64 ez)/\w'.cell? ⟨b,off+q*5+4,none⟩=some (.slice Az zn cz)) [8] [true,true,true,true,true,true,true,true,false] (by kernel_rfl) (by kernel_rfl) rfl (by kernel_rfl) ?_;have hS0:=(⟨b4,hr0,t0,t1,t2,t3,t4⟩:wr.cell? ⟨w.heap.size,4,none⟩=some (.slice (some ⟨b,off,none⟩) nu cu)/\wr.cell? ⟨rb,ro+i,none⟩=some (.int .i64 (q:Int))/\wr.cell? ⟨b,off+q*5,none⟩=some (.int .i64 kz)/\wr.cell? ⟨b,off+q*5+1,none⟩=some (.string xz)/\wr.cell? ⟨b,off+q*5+2,none⟩=some (.int .i64 az)/\wr.cell? ⟨b,off+q*5+3,none⟩=some (.int .i64 ez)/\wr.cell? ⟨b,off+q*5+4,none⟩=some (.slice Az zn cz))
   iterate 8(refine jL rfl hS0 (by intro w' hSw;obtain⟨hs0,hs1,hs2,hs3,hs4,hs5,hs6⟩:=hSw;go_simp;rfl) ?_;simp only[Act.put,sA,sZ,sC])
   refine j4 (w':=bZ (wr.drewN (nq+1)) w.heap.size (.int .i64 kz) (.string xz) (.int .i64 az) (.int .i64 ez) (.slice Az zn cz)) rfl (by go_simp;rfl) (fun h=>by cases h) ?_;simp only[Act.put];refine kV ?_;obtain⟨W7,uF⟩:∃W7,bZ (wr.drewN (nq+1)) w.heap.size (.int .i64 kz) (.string xz) (.int .i64 az) (.int .i64 ez) (.slice Az zn cz)=W7:=⟨_,rfl⟩
   have hs7:aA (fun x=>x=w.heap.size) (wr.drewN (nq+1)) W7:=by rw[<- uF];exact kP
   have sP:ak W7 w.heap.size 24 #[.int .i64 kz,.string xz,.int .i64 az,.int .i64 ez,.slice Az zn cz]:=by rw[<- uF];exact ak.sI (uJ.out.drewN (nq+1)) _ _ _ _ _
   have hr7:=(HR.out.drewN (nq+1)).since hs7 (by omega);have dQ:Below w.heap.size w W7:=(bq HB.out (nq+1)).trans (hs7.toBelow HB.out.size (fun g hg=>by omega));have xg:=kH sP;have gT:=kH dQ;have XC:=kH hr7;rw[uF];clear hS0 uF hs7 sP hr7 dQ b0 b1 b2 b3 b4 f0 f1 f2 f3 f4 t0 t1 t2 t3 t4 hr0 lb;go_wp2_with fail
   go_roundg (gk - 1)
   case measure=>have:=Bn.out;omega
   case rel=>
    obtain⟨g1,g2,g3,g4,g5,g6,g7⟩:=HZ.out;exact⟨i+1,z,Az,cz,by simp,by have:=Bn.out;omega,gT.out,by rw[g1,g2,g3,g4,g5];exact xg.out,XC.out,HFZ.out,g7,g6⟩
  ·have hie:i=n:=by omega
   subst hie
   have hyu:u=y:=by
    rw[List.drop_of_length_le (by rw[HN.out];exact aab _)]at hF;simpa [dX] using hF
   obtain⟨⟨r0,r1,r2,r3,r4⟩,h0,h1,h2,h3,h4⟩:=hR.five;have lr:=hR.lt;clear hin hB Cu hR hF GY qa Cr hxu Ct hzu hnu;go_wp2_with fail
   try simp only[Exit.inBlock,Exit.then]
   obtain⟨W9,nX⟩:∃W9,bZ wr (w.heap.size+1) (.int .i64 ku) (.string xu) (.int .i64 au) (.int .i64 zu) (.slice Au nu cu)=W9:=⟨_,rfl⟩
   have tL:aA (fun x=>x=w.heap.size+1) wr W9:=by rw[<- nX];exact kP
   have MB:ak W9 (w.heap.size+1) 24 #[.int .i64 ku,.string xu,.int .i64 au,.int .i64 zu,.slice Au nu cu]:=by rw[<- nX];exact ak.sI HR.out _ _ _ _ _
   have ek:Below w.heap.size w W9:=HB.out.trans (tL.toBelow HB.out.size (fun g hg=>by omega));obtain⟨⟨v0,v1,v2,v3,v4⟩,-⟩:=MB.five;unfold bZ at nX;rw[nX]
   have bC:Hid (∃Ay cy,Ending.returned (.tuple #[.agg #[.int .i64 ku,.string xu,.int .i64 au,.int .i64 zu,.slice Au nu cu],.bool true])= .returned (.tuple #[bB y Ay cy,.bool true])/\aK w w.heap.size Ay 0 y.kids/\y.kids.length<=cy/\Below w.heap.size w W9):=by
    obtain⟨g1,g2,g3,g4,g5,g6⟩:=HU.out;refine kH ⟨Au,cu,?_,by rw[<- hyu];exact HKU.out,by rw[<- hyu,g5];exact g6,ek⟩;rw[<- hyu];unfold bB;rw[g1,g2,g3,g4,g5]
   clear nX tL MB ek r0 r1 r2 r3 r4 h0 h1 h2 h3 h4 b0 b1 b2 b3 b4 f0 f1 f2 f3 f4;refine bodyPost_ret (v:=.tuple #[.agg #[.int .i64 ku,.string xu,.int .i64 au,.int .i64 zu,.slice Au nu cu],.bool true]) (by simp[results,Tryz.results24,go_sem,v0,v1,v2,v3,v4]) rfl ?_;exact bC.out
end Go.Proofs.YtoepemlnlpamlaaGreat
namespace Go.Proofs.YtoepemlnlpamlaaGreat
mutual
def Bd:aa->Bool
 | .node k _ _ _ kids=>(decide (k<2) || decide (8<k))&&(decide (k≠12) || decide (kids.length=2))&&(decide (k≠16) || decide (kids.length=3))&&(decide (k=11) || kids.all fun c=>decide (c.kind≠12))&&oN kids
def oN:List aa->Bool
 | []=>true
 | t::ts=>Bd t&&oN ts
end
theorem yw{k:Int}{x:ByteArray}{a e:Int}{kids:List aa}(h:Bd (.node k x a e kids)=true):
 (k<2\/8<k)/\(k=12->kids.length=2)/\(k=16->kids.length=3)/\(k≠11->∀c∈kids,c.kind≠12)/\oN kids=true:=by
 rw[Bd]at h;simp only[aad,Bool.or_eq_true,decide_eq_true_eq,List.all_eq_true]at h;obtain⟨⟨⟨⟨h1,h2⟩,h3⟩,h4⟩,h5⟩:=h;exact⟨h1,fun e=>h2.resolve_left (by simp[e]),fun e=>h3.resolve_left (by simp[e]),fun e=>h4.resolve_left e,h5⟩
theorem Ru(s:aT)(l:nA):(lL s l).tail=s.tail:=by cases s<;>rfl
def tu(G:bD)(t:aa)(s:aT)(n:Nat):nA:=if (eO s t.text).isSome || (bY G.globals t.text).isSome then [] else [(t.text,(n:Int))]
theorem wu(G:bD)(r:RS)(c:Int)(n:Nat)(t:aa)(s:aT):(aD G r c n t ([]::s)).2.headD []=tu G t s n:=by
 unfold aD tu;have h:eO ([]::s) t.text=eO s t.text:=rfl;rw[h];split<;>rfl
mutual
theorem sG(G:bD):∀(t:aa) (i:Bool) (s:aT) (r:RS),Bd t=true->(aL G i t s r).2=if t.kind=12 then lL s (tu G t s r.next) else s
 | .node k x a e kids,i,s,r,hin=>by
  obtain⟨hk,h12,h16,hno,hks⟩:=(yw hin)
  have n3:k≠3:=by omega
  have n4:k≠4:=by omega
  have n5:k≠5:=by omega
  have n78:¬(k=7\/k=8):=by omega
  rw[di];rw[if_neg n3,if_neg n4,if_neg n5,if_neg n78];show _=if k=12 then _ else _
  by_cases h11:k=11
  ·rw[if_pos h11,if_neg (show k≠12 by omega)]
   exact zx G kids i 0 kids.length ([]::s) _ hks
  rw[if_neg h11];by_cases kX:k=12
  ·rw[if_pos kX,if_pos kX]
   rw[jG G kids i 0 2 s _ hks (hno h11),wu]
  rw[if_neg kX,if_neg kX];by_cases nI:k=16
  ·rw[if_pos nI]
   show(af G i kids 2 1 _ _).2.tail=s;rw[jG G kids i 2 1 _ _ hks (hno h11),jG G kids i 0 2 s _ hks (hno h11)];rfl
  rw[if_neg nI];exact jG G kids i 0 kids.length s _ hks (hno h11)
theorem jG(G:bD):∀(ts:List aa) (i:Bool) (f n:Nat) (s:aT) (r:RS),oN ts=true->(∀c∈ts,c.kind≠12)->(af G i ts f n s r).2=s
 | [],_,_,_,_,_,_,_=>by rw[af]
 | t::ts,i,f+1,n,s,r,hin,hno=>by
  rw[oN,aad]at hin;rw[af]
  exact jG G ts i f n s r hin.2 fun c hc=>hno c (by simp[hc])
 | t::ts,i,0,0,s,r,_,_=>by rw[af]
 | t::ts,i,0,n+1,s,r,hin,hno=>by
  rw[oN,aad]at hin;rw[af];rw[jG G ts i 0 n _ _ hin.2 fun c hc=>hno c (by simp[hc]),sG G t i s r hin.1,if_neg (hno t (by simp))]
theorem zx(G:bD):∀(ts:List aa) (i:Bool) (f n:Nat) (s:aT) (r:RS),oN ts=true->(af G i ts f n s r).2.tail=s.tail
 | [],_,_,_,_,_,_=>by rw[af]
 | t::ts,i,f+1,n,s,r,hin=>by
  rw[oN,aad]at hin;rw[af];exact zx G ts i f n s r hin.2
 | t::ts,i,0,0,s,r,_=>by rw[af]
 | t::ts,i,0,n+1,s,r,hin=>by
  rw[oN,aad]at hin;rw[af];rw[zx G ts i 0 n _ _ hin.2,sG G t i s r hin.1];split
  ·exact Ru _ _
  ·rfl
end
theorem Tq(G:bD)(t:aa)(i:Bool)(s:aT)(r:RS):∃u:RS,u.next=r.next+1/\u.bH=(aB r i (ah (aj s))).bH/\oV u (aL G i t s r).1:=by
 obtain⟨k,x,a,e,kids⟩:=t
 have hv:∀c s',(aD G (aB r i (ah (aj s))) c r.next (.node k x a e kids) s').1.next=r.next+1/\(aD G (aB r i (ah (aj s))) c r.next (.node k x a e kids) s').1.bH=(aB r i (ah (aj s))).bH:=fun c s'=>by
  unfold aD;split<;>exact⟨rfl,rfl⟩
 have hd:∀c b,(bF (aB r i (ah (aj s))) c r.next (.node k x a e kids) b).next=r.next+1/\(bF (aB r i (ah (aj s))) c r.next (.node k x a e kids) b).bH=(aB r i (ah (aj s))).bH:=fun c b=>by cases b<;>exact⟨rfl,rfl⟩
 have hu:∀tq,(gB (aB r i (ah (aj s))) r.next (.node k x a e kids) tq).next=r.next+1/\(gB (aB r i (ah (aj s))) r.next (.node k x a e kids) tq).bH=(aB r i (ah (aj s))).bH:=fun tq=>by cases tq<;>exact⟨rfl,rfl⟩
 rw[di];split
 ·refine⟨_,?_,?_,bS _ _ _ _ _ _ _⟩
  ·exact(hd 0 _).1
  ·exact(hd 0 _).2
 split
 ·exact⟨_,(hd _ _).1,(hd _ _).2,bS _ _ _ _ _ _ _⟩
 split
 ·refine⟨_,?_,?_,(bS G kids false 0 2 _ _).trans (bS _ _ _ _ _ _ _)⟩
  ·exact(hd 2 _).1
  ·exact(hd 2 _).2
 split
 ·exact⟨_,(hv _ _).1,(hv _ _).2,bS _ _ _ _ _ _ _⟩
 split
 ·exact⟨_,rfl,rfl,bS _ _ _ _ _ _ _⟩
 split
 ·exact⟨_,(hv _ _).1,(hv _ _).2,bS _ _ _ _ _ _ _⟩
 split
 ·exact⟨_,(hv _ _).1,(hv _ _).2,(bS _ _ _ _ _ _ _).trans (bS _ _ _ _ _ _ _)⟩
 ·unfold ik
  split
  ·exact⟨_,(hu _).1,(hu _).2,bS _ _ _ _ _ _ _⟩
  split
  ·exact⟨_,(hu _).1,(hu _).2,bS _ _ _ _ _ _ _⟩
  split
  ·exact⟨_,(hu _).1,(hu _).2,bS _ _ _ _ _ _ _⟩
  split
  ·exact⟨_,(hu _).1,(hu _).2,bS _ _ _ _ _ _ _⟩
  split
  ·exact⟨_,(hu _).1,(hu _).2,bS _ _ _ _ _ _ _⟩
  ·exact⟨_,rfl,rfl,bS _ _ _ _ _ _ _⟩
theorem NS(G:bD)(t:aa)(s:aT)(r:RS):bG (aL G true t s r).1.bH (r.next:Int)=some (ah (aj s)):=by
 obtain⟨u,h1,h2,h3⟩:=Tq G t true s r;rw[h3.bH r.next (by omega),h2];show bG (dK r.bH (r.next:Int) (ah (aj s))) (r.next:Int)=_;rw[rY,if_pos rfl]
mutual
theorem uq(G:bD):∀(t:aa) (i:Bool) (s:aT) (r:RS),Bd t=true->(aL G i t s r).1.next=r.next+ai t
 | .node k x a e kids,i,s,r,hin=>by
  have hint:∀(t:aa),Bd t=true->True:=fun _ _=>trivial
  obtain⟨hk,h12,h16,hno,hks⟩:=(yw hin)
  have n3:k≠3:=by omega
  have n4:k≠4:=by omega
  have n5:k≠5:=by omega
  have n78:¬(k=7\/k=8):=by omega
  have hv:∀c s',(aD G (aB r i (ah (aj s))) c r.next (.node k x a e kids) s').1.next=r.next+1:=fun c s'=>by
   unfold aD;split<;>rfl
  have hu:∀tq,(gB (aB r i (ah (aj s))) r.next (.node k x a e kids) tq).next=r.next+1:=fun tq=>by cases tq<;>rfl
  have hall:∀s' (u:RS),u.next=r.next+1->(af G i kids 0 kids.length s' u).1.next=r.next+ai (.node k x a e kids):=fun s' u h=>by
   rw[pG G kids i 0 kids.length s' u hks,h,ai];simp;omega
  rw[di];rw[if_neg n3,if_neg n4,if_neg n5,if_neg n78];split
  ·exact hall _ _ rfl
  split
  ·rename_i _ kX
   have hl:=h12 kX;have:=hall s (aD G (aB r i (ah (aj s))) 4 r.next (.node k x a e kids) ([]::s)).1 (hv _ _);rw[hl]at this;exact this
  split
  ·rename_i _ _ nI
   have hl:=h16 nI
   match kids,hl,hks with
   | [b,c,d],_,hks=>
    rw[pG G [b,c,d] i 2 1 _ _ hks];show(af G i [b,c,d] 0 2 s _).1.next+_=_;rw[pG G [b,c,d] i 0 2 s _ hks];show(aD G (aB r i (ah (aj s))) 5 r.next (.node k x a e [b,c,d]) ([]::s)).1.next+_+_=_;rw[hv];simp[ai,ag];omega
  ·refine hall _ _ ?_
   unfold ik;split
   ·exact hu _
   split
   ·exact hu _
   split
   ·exact hu _
   split
   ·exact hu _
   split
   ·exact hu _
   ·rfl
theorem pG(G:bD):∀(ts:List aa) (i:Bool) (f n:Nat) (s:aT) (r:RS),oN ts=true->(af G i ts f n s r).1.next=r.next+ag ((ts.drop f).take n)
 | [],_,_,_,_,_,_=>by rw[af];simp[ag]
 | t::ts,i,f+1,n,s,r,hin=>by
  rw[oN,aad]at hin;rw[af,List.drop_succ_cons];exact pG G ts i f n s r hin.2
 | t::ts,i,0,0,s,r,_=>by rw[af];simp[ag]
 | t::ts,i,0,n+1,s,r,hin=>by
  rw[oN,aad]at hin;rw[af];rw[pG G ts i 0 n _ _ hin.2,uq G t i s r hin.1];simp[ag];omega
end
def eD(r q:RS):Prop:=q.aR.length=r.aR.length
theorem eD.split{a b c:RS}(h1:oV a b)(h2:oV b c)(h:eD a c):eD a b/\eD b c:=by
 obtain⟨l1,e1,_⟩:=h1.aR;obtain⟨l2,e2,_⟩:=h2.aR;unfold eD at*;rw[e2,e1]at h;simp at h;rw[e2,e1];simp[h]
end Go.Proofs.YtoepemlnlpamlaaGreat
