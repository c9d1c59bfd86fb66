/- The law NamesStand holds: for every text and every number the law returns true, and its arguments read as before. No condition. Part 33: Fits Shaped. -/
import Derived.Test.YtoepemlnlpamlaaGreatStand19
import Derived.Test.YtoepemlnlpamlaaGreatStand32
set_option maxRecDepth 100000
set_option maxHeartbeats 4000000
namespace Go.Proofs.YtoepemlnlpamlaaGreat
open Go.RowKit
section
variable {P:Program}{t:TypeId}{ps rs:Array TypeId}{vr:Bool}
theorem BI(w:World)(d:Nat)(h:P.underlying t=some (.func ps rs vr)):(Op.equalIn (d+1) t Value.nilFunc Value.nilFunc).run P w= .ok true w:=by
 simp[Op.equalIn,run_underlying h]
theorem AP(f:Go.Fn)(cap:Array Value)(w:World)(d:Nat)(h:P.underlying t=some (.func ps rs vr)):(Op.equalIn (d+1) t (.func f #[] cap) Value.nilFunc).run P w= .ok false w:=by
 simp[Op.equalIn,run_underlying h]
theorem Rk(w:World)(h:P.underlying t=some (.func ps rs vr)):(binOp BinOp.eql t Value.nilFunc Value.nilFunc).run P w= .ok (.bool true) w:=by
 simp only[binOp];simp[Op.equal,Op.maxDepth,BI w 9999 h]
theorem Qi(f:Go.Fn)(cap:Array Value)(w:World)(h:P.underlying t=some (.func ps rs vr)):(binOp BinOp.eql t (.func f #[] cap) Value.nilFunc).run P w= .ok (.bool false) w:=by
 simp only[binOp];simp[Op.equal,Op.maxDepth,AP f cap w 9999 h]
theorem Rc(w:World)(h:P.underlying t=some (.func ps rs vr)):(binOp BinOp.neq t Value.nilFunc Value.nilFunc).run P w= .ok (.bool false) w:=by
 simp only[binOp];simp[Op.equal,Op.maxDepth,BI w 9999 h]
theorem OQ(f:Go.Fn)(cap:Array Value)(w:World)(h:P.underlying t=some (.func ps rs vr)):(binOp BinOp.neq t (.func f #[] cap) Value.nilFunc).run P w= .ok (.bool true) w:=by
 simp only[binOp];simp[Op.equal,Op.maxDepth,AP f cap w 9999 h]
end
def yt(sh:xw)(i:Nat)(t:aa):Bool:=
 match sh.list with
 | some p=>p t.kind
 | none=>match sh.kids[i]? with|some p=>p t.kind|none=>false
def gF(sh:xw):Nat->List aa->Bool
 | _,[]=>true
 | i,t::ts=>yt sh i t&&gF sh (i+1) ts
def oQ(sh:xw)(n:Nat):Bool:=
 match sh.list with
 | none=>decide (n=sh.kids.length)
 | some _=>decide (sh.most<=(n:Int))
def nR(sh:xw)(t:aa):Bool:=sh.text t.text&&oQ sh t.kids.length&&gF sh 0 t.kids
theorem WW(sh:xw)(v:Value)(t:aa)(A:Option Addr)(c:Nat)(w:World)(B:Nat)(hB:B<=w.heap.size)(hv:qC w v sh)(hk:aK w B A 0 t.kids)(hn:t.kids.length<=1000000000000)(hl:sh.list=none)(hsk:sh.kids.length<=10):
 Calls Tryz.prog 143 #[v,bB t A c] w fun e w'=>e= .returned (.bool (nR sh t))/\Below w.heap.size w w':=by
 obtain⟨tv,Ak,ck,lv,rfl,htext,hrow,hlist⟩:=hv;obtain⟨ft,ct,e1,hent,hcall⟩:=htext;subst e1;rw[hl]at hlist;have hlv:lv= .nilFunc:=hlist;subst hlv;have hres:nR sh t=(sh.text t.text&&decide (t.kids.length=sh.kids.length)&&gF sh 0 t.kids):=by unfold nR oQ;rw[hl]
 rw[hres];unfold bB;unfold QT at hent;obtain⟨kids,mh⟩:∃x,t.kids=x:=⟨_,rfl⟩
 obtain⟨n,hnn⟩:∃x,kids.length=x:=⟨_,rfl⟩
 obtain⟨m,hmm⟩:∃x,sh.kids.length=x:=⟨_,rfl⟩
 rw[mh]at hk hn⊢;rw[hnn]at hn⊢;rw[hmm]at hsk⊢;obtain⟨kd,hk0⟩:∃x,t.kind=x:=⟨_,rfl⟩
 obtain⟨x,hx0⟩:∃x,t.text=x:=⟨_,rfl⟩
 obtain⟨a,ha0⟩:∃x,t.at_=x:=⟨_,rfl⟩
 obtain⟨z,hz0⟩:∃x,t.end_=x:=⟨_,rfl⟩
 obtain⟨mo,hmo⟩:∃x,sh.most=x:=⟨_,rfl⟩
 obtain⟨bt,hbt⟩:∃b,sh.text x=b:=⟨_,rfl⟩
 rw[hk0,hx0,ha0,hz0,hmo,hbt];have jD:=kH hcall;have HBT:=kH hbt;have za:=kH hrow;have HK:=kH hk;have HN:=kH hnn;have QI:=kH hmm;have HL:=kH hl;have HB:=kH hB;clear hcall hbt hrow hk hnn hmm hl hres mh hk0 hx0 ha0 hz0 hmo hlist hB;have hnn1:∀w':World,(binOp BinOp.eql 54 .nilFunc .nilFunc).run Tryz.prog w'= .ok (.bool true) w':=fun w'=>Rk w' Tryz.underlying54
 have hnn2:∀w':World,(binOp BinOp.neq 54 .nilFunc .nilFunc).run Tryz.prog w'= .ok (.bool false) w':=fun w'=>Rc w' Tryz.underlying54
 go_enter Tryz.func143,Tryz.ntmps143
 go_wp2_with fail
 generalize hW1:w.alloc (.cells #[.func (Fn.func ft) #[] ct,.slice Ak m ck,.nilFunc,.int .i64 mo] 197)=W1
 have hb1:Below w.heap.size w W1:=by rw[<- hW1];exact ae _ _
 have hS1:ak W1 w.heap.size 197 #[.func (Fn.func ft) #[] ct,.slice Ak m ck,.nilFunc,.int .i64 mo]:=by rw[<- hW1];exact ak.new w _ _
 have hs1:W1.heap.size=w.heap.size+1:=by rw[<- hW1];simp
 rw[<- hs1];generalize hW2:W1.alloc (.cells #[.int .i64 kd,.string x,.int .i64 a,.int .i64 z,.slice A n c] 24)=w2
 have hb2:Below W1.heap.size W1 w2:=by rw[<- hW2];exact ae _ _
 have rf:ak w2 W1.heap.size 24 #[.int .i64 kd,.string x,.int .i64 a,.int .i64 z,.slice A n c]:=by rw[<- hW2];exact ak.new W1 _ _
 have hS2:=hS1.below hb2 hS1.lt;have lX:=hb1.trans (hb2.mono hb1.size);have hcl:=jD.out x w2 (KC.of_below lX) lX.size;rw[HBT.out]at hcl;have XM:=kH hcl;have FV:=kH lX;have hs1b:w.heap.size<W1.heap.size:=by omega
 clear hW1 hW2 hb1 hS1 hs1 hb2 lX hcl;refine XM.out.mono ?_;rintro e w3 ⟨rfl,hb3⟩;have sQ:=hS2.below hb3 hS2.lt;have mr:=rf.below hb3 rf.lt;have Qc:=FV.out.trans (hb3.mono FV.out.size);have p0:=sQ.cell 0;have p1:=sQ.cell 1;have p2:=sQ.cell 2;have p3:=sQ.cell 3;have q4:=mr.cell 4;have hlS:=sQ.lt;have hlN:=mr.lt;have jE:=kH sQ;have lG:=kH mr;have oO:=kH Qc;clear sQ mr Qc hS2 rf hb3;cases bt
 ·go_wp2_with fail
  go_ret
  exact⟨bQ (by simp),oO.out⟩
 by_cases hnm:n=m
 case neg=>
  have hne:((n:Int) !=(m:Int))=true:=by simp;omega
  have xA:=kH hnm;clear hnm;go_wp2_with fail
  go_ret
  exact⟨bQ (by rw[decide_eq_false xA.out];simp),oO.out⟩
 subst hnm;have hne:((n:Int) !=(n:Int))=false:=by simp
 go_wp2_with fail
 go_loopg [44] n (fun gk s44 wr=> ∃k:Nat,k+gk=n/\s44= .int .i64 (k:Int)/\gF sh 0 kids=gF sh k (kids.drop k)/\Below w3.heap.size w3 wr)
 case atStart=>exact⟨0,by omega,rfl,rfl,Below.refl _ _⟩
 case round=>
  obtain⟨k,hk,rfl,hfit,hbr⟩:=hrel;have Jm:=kH hfit;have qm:=kH hbr;have hz3:=hbr.size;have hSr:=jE.out.below hbr hlS;have p1:wr.cell? ⟨w.heap.size,1,none⟩=some (.slice Ak n ck):=hSr.cell 1;have p2:wr.cell? ⟨w.heap.size,2,none⟩=some .nilFunc:=hSr.cell 2;have hlSr:=hSr.lt;have HI:=kH hk;have hkn:k<=n:=by omega
  clear hfit hbr hSr hk;by_cases hlt:k<n
  ·have hlt':(k:Int)<(n:Int):=by omega
   obtain⟨u,hu⟩:∃u,kids[k]? =some u:=⟨_,aaf (by rw[HN.out];exact hlt)⟩
   obtain⟨vals,⟨b,off,hA,hbl,hcs⟩,hT⟩:=HK.out.get k u hu;obtain⟨A',c',lh,-⟩:=hT.five;subst hA;subst lh;have hbw:b<w.heap.size:=by have:=HB.out;omega
   have Lt:b<w3.heap.size:=by omega
   have hbb:b<wr.heap.size:=by omega
   have tr:∀o v',w.cell? ⟨b,o,none⟩=some v'->wr.cell? ⟨b,o,none⟩=some v':=fun o v' h=>(qm.out.cell (p:=⟨b,o,none⟩) Lt).trans ((oO.out.cell (p:=⟨b,o,none⟩) hbw).trans h)
   have t0:wr.cell? ⟨b,off+k*5,none⟩=some (.int .i64 u.kind):=tr _ _ (by simpa using hcs 0 _ rfl);have t1:wr.cell? ⟨b,off+k*5+1,none⟩=some (.string u.text):=tr _ _ (by simpa using hcs 1 _ rfl);have t2:wr.cell? ⟨b,off+k*5+2,none⟩=some (.int .i64 u.at_):=tr _ _ (by simpa using hcs 2 _ rfl);have t3:wr.cell? ⟨b,off+k*5+3,none⟩=some (.int .i64 u.end_):=tr _ _ (by simpa using hcs 3 _ rfl);have t4:wr.cell? ⟨b,off+k*5+4,none⟩=some (.slice A' u.kids.length c'):=tr _ _ (by simpa using hcs 4 _ rfl);obtain⟨p,hp⟩:∃p,sh.kids[k]? =some p:=⟨_,aaf (by rw[QI.out];exact hlt)⟩
   obtain⟨b',off',v',hAk,hcv,nM⟩:=za.out k p hp;obtain⟨fn,cap,e1,hent2,yA⟩:=nM;subst e1;subst hAk;have IW:KC w wr:=(KC.of_below oO.out).trans (KC.of_below qm.out);have Mt:w.heap.size<=wr.heap.size:=by have:=oO.out.size;omega
   have hv:wr.cell? ⟨b',off'+k,none⟩=some (.func (Fn.func fn) #[] cap):=IW.cell hcv;have hbb':b'<wr.heap.size:=IW.lt hcv;have Ki:=ae wr (.cells #[.int .i64 u.kind,.string u.text,.int .i64 u.at_,.int .i64 u.end_,.slice A' u.kids.length c'] 24);have Am:=yA u.kind _ (IW.trans (KC.of_below Ki)) (aac Mt Ki.size)
   have hstep:gF sh k (kids.drop k)=(p u.kind&&gF sh (k+1) (kids.drop (k+1))):=by
    have hd:kids.drop k=u::kids.drop (k+1):=by
     have hl2:k<kids.length:=by rw[HN.out];exact hlt
     rw[List.drop_eq_getElem_cons hl2];rw[aaf hl2]at hu;injection hu with hu
     rw[hu]
    rw[hd];simp only[gF,yt];rw[HL.out,hp]
   obtain⟨bk,hbk⟩:∃q,p u.kind=q:=⟨_,rfl⟩
   rw[hbk]at Am hstep;have QS:=kH Am;have BM:=kH hstep;have Hr:=kH Ki;unfold QT at hent2;have hwr:IntKind.i64.wrap ((k:Int)+1)=(k:Int)+1:=IntWalk.i64_in _ (by omega);obtain⟨un,hun⟩:∃q,u.kids.length=q:=⟨_,rfl⟩
   rw[hun]at t4 QS Hr;clear hcs hT tr yA Am hstep Ki IW hcv hu hp hbk hun Mt;go_wp2_with fail
   refine QS.out.mono ?_;rintro e w5 ⟨rfl,hb5⟩;have fT:=kH (qm.out.trans ((Hr.out.trans (hb5.mono Hr.out.size)).mono qm.out.size));clear hb5;cases bk
   ·go_wp2_with fail
    go_ret
    have hend:gF sh 0 kids=false:=by rw[Jm.out,BM.out];simp
    exact⟨bQ (by simp[hend]),oO.out.trans (fT.out.mono oO.out.size)⟩
   ·go_wp2_with fail
    go_roundg (gk - 1)
    case measure=>have:=HI.out;omega
    case rel=>exact⟨k+1,by have:=HI.out;omega,by simp,by rw[Jm.out,BM.out];simp,fT.out⟩
  ·have hke:k=n:=by omega
   have hres:gF sh 0 kids=true:=by rw[Jm.out,hke,<- HN.out,List.drop_length];rfl
   have aV:=kH hres;clear hres;go_wp2_with fail
   go_ret
   exact⟨bQ (by simp[aV.out]),oO.out.trans (qm.out.mono oO.out.size)⟩
theorem WX(sh:xw)(v:Value)(t:aa)(A:Option Addr)(c:Nat)(w:World)(B:Nat)(hB:B<=w.heap.size)(hv:qC w v sh)(hk:aK w B A 0 t.kids)(hn:t.kids.length<=1000000000000)(p:Int->Bool)(hl:sh.list=some p):
 Calls Tryz.prog 143 #[v,bB t A c] w fun e w'=>e= .returned (.bool (nR sh t))/\Below w.heap.size w w':=by
 obtain⟨tv,Ak,ck,lv,rfl,htext,hrow,hlist⟩:=hv;obtain⟨ft,ct,e1,hent,hcall⟩:=htext;subst e1;rw[hl]at hlist;obtain⟨fl,cl,e1,hentl,WB⟩:=(show jU w lv p from hlist)
 subst e1;have hres:nR sh t=(sh.text t.text&&decide (sh.most<=(t.kids.length:Int))&&gF sh 0 t.kids):=by unfold nR oQ;rw[hl]
 rw[hres];unfold bB;unfold QT at hent hentl;obtain⟨kids,mh⟩:∃x,t.kids=x:=⟨_,rfl⟩
 obtain⟨n,hnn⟩:∃x,kids.length=x:=⟨_,rfl⟩
 obtain⟨m,hmm⟩:∃x,sh.kids.length=x:=⟨_,rfl⟩
 rw[mh]at hk hn⊢;rw[hnn]at hn⊢;rw[hmm];obtain⟨kd,hk0⟩:∃x,t.kind=x:=⟨_,rfl⟩
 obtain⟨x,hx0⟩:∃x,t.text=x:=⟨_,rfl⟩
 obtain⟨a,ha0⟩:∃x,t.at_=x:=⟨_,rfl⟩
 obtain⟨z,hz0⟩:∃x,t.end_=x:=⟨_,rfl⟩
 obtain⟨mo,hmo⟩:∃x,sh.most=x:=⟨_,rfl⟩
 have HCALLL:=kH WB;obtain⟨bt,hbt⟩:∃b,sh.text x=b:=⟨_,rfl⟩
 rw[hk0,hx0,ha0,hz0,hmo,hbt];have jD:=kH hcall;have HBT:=kH hbt;have HK:=kH hk;have HN:=kH hnn;have HL:=kH hl;have HB:=kH hB;clear hcall WB hbt hrow hk hnn hmm hl hres mh hk0 hx0 ha0 hz0 hmo hlist hB;have hnn1:∀w':World,(binOp BinOp.eql 54 (.func (Fn.func fl) #[] cl) .nilFunc).run Tryz.prog w'= .ok (.bool false) w':=fun w'=>Qi _ _ w' Tryz.underlying54
 have hnn2:∀w':World,(binOp BinOp.neq 54 (.func (Fn.func fl) #[] cl) .nilFunc).run Tryz.prog w'= .ok (.bool true) w':=fun w'=>OQ _ _ w' Tryz.underlying54
 go_enter Tryz.func143,Tryz.ntmps143
 go_wp2_with fail
 generalize hW1:w.alloc (.cells #[.func (Fn.func ft) #[] ct,.slice Ak m ck,.func (Fn.func fl) #[] cl,.int .i64 mo] 197)=W1
 have hb1:Below w.heap.size w W1:=by rw[<- hW1];exact ae _ _
 have hS1:ak W1 w.heap.size 197 #[.func (Fn.func ft) #[] ct,.slice Ak m ck,.func (Fn.func fl) #[] cl,.int .i64 mo]:=by rw[<- hW1];exact ak.new w _ _
 have hs1:W1.heap.size=w.heap.size+1:=by rw[<- hW1];simp
 rw[<- hs1];generalize hW2:W1.alloc (.cells #[.int .i64 kd,.string x,.int .i64 a,.int .i64 z,.slice A n c] 24)=w2
 have hb2:Below W1.heap.size W1 w2:=by rw[<- hW2];exact ae _ _
 have rf:ak w2 W1.heap.size 24 #[.int .i64 kd,.string x,.int .i64 a,.int .i64 z,.slice A n c]:=by rw[<- hW2];exact ak.new W1 _ _
 have hS2:=hS1.below hb2 hS1.lt;have lX:=hb1.trans (hb2.mono hb1.size);have hcl:=jD.out x w2 (KC.of_below lX) lX.size;rw[HBT.out]at hcl;have XM:=kH hcl;have FV:=kH lX;have hs1b:w.heap.size<W1.heap.size:=by omega
 clear hW1 hW2 hb1 hS1 hs1 hb2 lX hcl;refine XM.out.mono ?_;rintro e w3 ⟨rfl,hb3⟩;have sQ:=hS2.below hb3 hS2.lt;have mr:=rf.below hb3 rf.lt;have Qc:=FV.out.trans (hb3.mono FV.out.size);have p0:=sQ.cell 0;have p1:=sQ.cell 1;have p2:=sQ.cell 2;have p3:=sQ.cell 3;have q4:=mr.cell 4;have hlS:=sQ.lt;have hlN:=mr.lt;have jE:=kH sQ;have lG:=kH mr;have oO:=kH Qc;clear sQ mr Qc hS2 rf hb3;cases bt
 ·go_wp2_with fail
  go_ret
  exact⟨bQ (by simp),oO.out⟩
 by_cases hnm:mo<=(n:Int)
 case neg=>
  have hne:decide ((n:Int)<mo)=true:=decide_eq_true (by omega);have xA:=kH hnm;clear hnm;go_wp2_with fail
  go_ret
  exact⟨bQ (by have h:=xA.out;rw[decide_eq_false (p:=mo<=(n:Int)) (by omega)];simp),oO.out⟩
 have hne:decide ((n:Int)<mo)=false:=decide_eq_false (by omega);have xA:=kH hnm;clear hnm;go_wp2_with fail
 go_loopg [44] n (fun gk s44 wr=> ∃k:Nat,k+gk=n/\s44= .int .i64 (k:Int)/\gF sh 0 kids=gF sh k (kids.drop k)/\Below w3.heap.size w3 wr)
 case atStart=>exact⟨0,by omega,rfl,rfl,Below.refl _ _⟩
 case round=>
  obtain⟨k,hk,rfl,hfit,hbr⟩:=hrel;have Jm:=kH hfit;have qm:=kH hbr;have hz3:=hbr.size;have hSr:=jE.out.below hbr hlS;have p1:wr.cell? ⟨w.heap.size,1,none⟩=some (.slice Ak m ck):=hSr.cell 1;have p2:wr.cell? ⟨w.heap.size,2,none⟩=some (.func (Fn.func fl) #[] cl):=hSr.cell 2;have hlSr:=hSr.lt;have HI:=kH hk;have hkn:k<=n:=by omega
  clear hfit hbr hSr hk;by_cases hlt:k<n
  ·have hlt':(k:Int)<(n:Int):=by omega
   obtain⟨u,hu⟩:∃u,kids[k]? =some u:=⟨_,aaf (by rw[HN.out];exact hlt)⟩
   obtain⟨vals,⟨b,off,hA,hbl,hcs⟩,hT⟩:=HK.out.get k u hu;obtain⟨A',c',lh,-⟩:=hT.five;subst hA;subst lh;have hbw:b<w.heap.size:=by have:=HB.out;omega
   have Lt:b<w3.heap.size:=by omega
   have hbb:b<wr.heap.size:=by omega
   have tr:∀o v',w.cell? ⟨b,o,none⟩=some v'->wr.cell? ⟨b,o,none⟩=some v':=fun o v' h=>(qm.out.cell (p:=⟨b,o,none⟩) Lt).trans ((oO.out.cell (p:=⟨b,o,none⟩) hbw).trans h)
   have t0:wr.cell? ⟨b,off+k*5,none⟩=some (.int .i64 u.kind):=tr _ _ (by simpa using hcs 0 _ rfl);have t1:wr.cell? ⟨b,off+k*5+1,none⟩=some (.string u.text):=tr _ _ (by simpa using hcs 1 _ rfl);have t2:wr.cell? ⟨b,off+k*5+2,none⟩=some (.int .i64 u.at_):=tr _ _ (by simpa using hcs 2 _ rfl);have t3:wr.cell? ⟨b,off+k*5+3,none⟩=some (.int .i64 u.end_):=tr _ _ (by simpa using hcs 3 _ rfl);have t4:wr.cell? ⟨b,off+k*5+4,none⟩=some (.slice A' u.kids.length c'):=tr _ _ (by simpa using hcs 4 _ rfl);have IW:KC w wr:=(KC.of_below oO.out).trans (KC.of_below qm.out);have Mt:w.heap.size<=wr.heap.size:=by have:=oO.out.size;omega
   have Ki:=ae wr (.cells #[.int .i64 u.kind,.string u.text,.int .i64 u.at_,.int .i64 u.end_,.slice A' u.kids.length c'] 24);have Am:=HCALLL.out u.kind _ (IW.trans (KC.of_below Ki)) (aac Mt Ki.size)
   have hstep:gF sh k (kids.drop k)=(p u.kind&&gF sh (k+1) (kids.drop (k+1))):=by
    have hd:kids.drop k=u::kids.drop (k+1):=by
     have hl2:k<kids.length:=by rw[HN.out];exact hlt
     rw[List.drop_eq_getElem_cons hl2];rw[aaf hl2]at hu;injection hu with hu
     rw[hu]
    rw[hd];simp only[gF,yt];rw[HL.out]
   obtain⟨bk,hbk⟩:∃q,p u.kind=q:=⟨_,rfl⟩
   rw[hbk]at Am hstep;have QS:=kH Am;have BM:=kH hstep;have Hr:=kH Ki;have hwr:IntKind.i64.wrap ((k:Int)+1)=(k:Int)+1:=IntWalk.i64_in _ (by omega);obtain⟨un,hun⟩:∃q,u.kids.length=q:=⟨_,rfl⟩
   rw[hun]at t4 QS Hr;clear hcs hT tr Am hstep Ki IW hu hbk hun Mt;go_wp2_with fail
   refine QS.out.mono ?_;rintro e w5 ⟨rfl,hb5⟩;have fT:=kH (qm.out.trans ((Hr.out.trans (hb5.mono Hr.out.size)).mono qm.out.size));clear hb5;cases bk
   ·go_wp2_with fail
    go_ret
    have hend:gF sh 0 kids=false:=by rw[Jm.out,BM.out];simp
    exact⟨bQ (by simp[hend]),oO.out.trans (fT.out.mono oO.out.size)⟩
   ·go_wp2_with fail
    go_roundg (gk - 1)
    case measure=>have:=HI.out;omega
    case rel=>exact⟨k+1,by have:=HI.out;omega,by simp,by rw[Jm.out,BM.out];simp,fT.out⟩
  ·have hke:k=n:=by omega
   have hres:gF sh 0 kids=true:=by rw[Jm.out,hke,<- HN.out,List.drop_length];rfl
   have aV:=kH hres;clear hres;go_wp2_with fail
   go_ret
   exact⟨bQ (by have h:=xA.out;rw[decide_eq_true (p:=mo<=(n:Int)) (by omega),aV.out];simp),oO.out.trans (qm.out.mono oO.out.size)⟩
theorem Zf(sh:xw)(v:Value)(t:aa)(A:Option Addr)(c:Nat)(w:World)(B:Nat)(hB:B<=w.heap.size)(hv:qC w v sh)(hk:aK w B A 0 t.kids)(hn:t.kids.length<=1000000000000)(hsk:sh.kids.length<=10):
 Calls Tryz.prog 143 #[v,bB t A c] w fun e w'=>e= .returned (.bool (nR sh t))/\Below w.heap.size w w':=by
 cases hl:sh.list with
 | none=>exact WW sh v t A c w B hB hv hk hn hl hsk
 | some p=>exact WX sh v t A c w B hB hv hk hn p hl
open Go.Shelf
attribute [local go_sem] Oper.semAt_some
def CV(t:aa):Bool:=match t.kids with|k::_=>iB k.text| []=>false
def dR(t:aa):Bool:=match lZ t.kind with|none=>false|some sh=>nR sh t&&(if t.kind=4 then CV t else true)
def gU(t:aa):Bool:=(bL t).all dR
def j6(t:aa):Bool:=decide (t.kind=2)&&gU t
theorem NV(y:ByteArray)(l:Array UInt8):(y.toList==l.toList)=decide (y=⟨l⟩):=by
 rw[ByteArray.toList_eq];obtain⟨d⟩:=y;rw[Bool.eq_iff_iff];simp
theorem Nu(y:ByteArray):iB y=(y.toList==[105,110,116] || y.toList==[98,111,111,108]):=by
 unfold iB;rw[<- NV,<- NV]
theorem Tf(w:World):(zeroValue 197).run Tryz.prog w= .ok (.agg #[.nilFunc,.slice none 0 0,.nilFunc,.int .i64 0]) w:=by go_simp
theorem TC{k:Int}{sh:xw}(h:lZ k=some sh):sh.kids.length<=10:=by
 cases k with
 | negSucc n=>cases h
 | ofNat n=>
  have h2:tF n=some sh:=h;unfold tF at h2;split at h2<;>first|(cases h2;done)|(cases h2;simp;done)
theorem TB(t:aa)(A:Option Addr)(c:Nat)(w:World)(hm:ai t<=1000000000)(hk:aK w w.heap.size A 0 t.kids):
 Calls Tryz.prog 76 #[bB t A c] w fun e w'=>e= .returned (.bool (gU t))/\Below w.heap.size w w':=by
 refine(callsIn_wide (n:=6)).1 ?_;have sF:=fun w'=>Mo t A c w'
 unfold bB at sF⊢;refine callsIn_of_wp_marks Tryz.func76 rfl trivial ?_ rfl;simp only[Tryz.ntmps76,List.size_toArray,aao,List.length_nil,Nat.reduceAdd,Nat.reduceSub,Array.replicate_succ,Array.replicate_zero,List.push_toArray,List.append_toArray,List.nil_append,List.cons_append];have YV:=ak.new w 24 #[.int .i64 t.kind,.string t.text,.int .i64 t.at_,.int .i64 t.end_,.slice A t.kids.length c];have hb0:=ae w (.cells #[.int .i64 t.kind,.string t.text,.int .i64 t.at_,.int .i64 t.end_,.slice A t.kids.length c] 24)
 have RP:=(TA (w.alloc (.cells #[.int .i64 t.kind,.string t.text,.int .i64 t.at_,.int .i64 t.end_,.slice A t.kids.length c] 24))).mono (R':=fun e w1=> ∃r,e= .returned (.map (some r))/\Je w1 r/\Below w.heap.size w w1/\w.heap.size<w1.heap.size /\
  w1.cell? ⟨w.heap.size,0,none⟩=some (.int .i64 t.kind)/\w1.cell? ⟨w.heap.size,1,none⟩=some (.string t.text)/\w1.cell? ⟨w.heap.size,2,none⟩=some (.int .i64 t.at_)/\w1.cell? ⟨w.heap.size,3,none⟩=some (.int .i64 t.end_)/\w1.cell? ⟨w.heap.size,4,none⟩=some (.slice A t.kids.length c))
  (fun e w1 ⟨r,h1,h2,h3⟩=>by
   have h4:=YV.below h3 YV.lt
   exact⟨r,h1,h2,hb0.trans (h3.mono (by simp)),h4.lt,h4.cell 0,h4.cell 1,h4.cell 2,h4.cell 3,h4.cell 4⟩)
 clear YV hb0;gi_wp2_with (refine⟨trivial,?_⟩;gi_at_call 141;refine(callsIn_wide.2 RP).mono ?_;clear RP;rintro e w1 ⟨r,rfl,hsh,hb1,hlt1,c0,c1,c2,c3,c4⟩)
 refine⟨trivial,?_⟩;gi_at_call 142
 refine(callsIn_wide.2 (sF _)).mono ?_;rintro e w' ⟨rfl,rfl⟩;gi_wp2
 have hM1:ak (w1.alloc (.cells #[.map (some r)] 191)) w1.heap.size 191 #[.map (some r)]:=ak.new w1 _ _;generalize hW2:w1.alloc (.cells #[.map (some r)] 191)=W2 at hM1⊢
 have hb2:Below w1.heap.size w1 W2:=by rw[<- hW2];exact ae _ _
 have hs2:W2.heap.size=w1.heap.size+1:=by rw[<- hW2];simp
 have hO3:ak (W2.alloc (.cells #[.bool true] 4)) (w1.heap.size+1) 4 #[.bool true]:=by rw[<- hs2];exact ak.new W2 _ _
 generalize hW3:W2.alloc (.cells #[.bool true] 4)=W3 at hO3⊢
 have hb3:Below W2.heap.size W2 W3:=by rw[<- hW3];exact ae _ _
 have hs3:W3.heap.size=w1.heap.size+2:=by rw[<- hW3];simp[hs2]
 have Ko:ak (W3.alloc (.cells #[.int .i64 t.kind,.string t.text,.int .i64 t.at_,.int .i64 t.end_,.slice A t.kids.length c] 24)) (w1.heap.size+1+1) 24 #[.int .i64 t.kind,.string t.text,.int .i64 t.at_,.int .i64 t.end_,.slice A t.kids.length c]:=by rw[show w1.heap.size+1+1=W3.heap.size by omega];exact ak.new W3 _ _
 generalize l9:W3.alloc (.cells #[.int .i64 t.kind,.string t.text,.int .i64 t.at_,.int .i64 t.end_,.slice A t.kids.length c] 24)=W4 at Ko⊢
 have hb4:Below W3.heap.size W3 W4:=by rw[<- l9];exact ae _ _
 have hs4:W4.heap.size=w1.heap.size+3:=by rw[<- l9];simp[hs3]
 have hM4:=(hM1.below hb3 hM1.lt).below hb4 (by omega);have hO4:=hO3.below hb4 hO3.lt;have qc:Below w1.heap.size w1 W4:=(hb2.trans (hb3.mono (by omega))).trans (hb4.mono (by omega));have hk4:=aK.below (hb1.trans (qc.mono (by omega))) (aab _) _ _ _ hk;clear hW2 hW3 l9 hb2 hb3 hb4 hs2 hs3 hM1 hO3 hk sF c0 c1 c2 c3 c4;have h1:1<=6:=by omega
 refine wpIn_rangeFunc_ownH rfl h1 (gf:=199) (lb:=#[.pointer (some ⟨w1.heap.size+1+1,0,none⟩)]) rfl trivial (enters_of Tryz.func199 (by kernel_rfl) rfl)
  (GA Fence.wide rfl (6 - 1) trivial trivial rfl (w1.heap.size+1+1) w.heap.size (w1.heap.size+3) 1000000000 (by omega) (aab _) W4 W4 t A c hm hk4 (gM.refl _ _ _) (by omega) Ko) gM.trans (fun W l o o' _ h hc _=>gM.putObj o' h hc) (Below.refl _ _) (fun _=>rfl)
  (fun pre W=>(ak W w1.heap.size 191 #[.map (some r)]/\ak W (w1.heap.size+1) 4 #[.bool (pre.all fun x=>dR x.t)])/\(Below w1.heap.size w1 W/\Below w.heap.size W4 W))
  (fun _ _ _=>False)
  (OwnFrom.and (OwnFrom.and (yg _ _ _ _) (yg _ _ _ _)) (OwnFrom.and (ownFrom_below (aab _) (by omega)) (ownFrom_below (by omega) (by omega))))
  (fun _ _ _ _ _ hs _ _=>hs)
  ⟨⟨hM4,hO4⟩,qc,Below.refl _ _⟩
  (fun x a' W=> ∃Bx,w1.heap.size+3<=Bx/\ak W Bx 24 #[.int .i64 x.t.kind,.string x.t.text,.int .i64 x.t.at_,.int .i64 x.t.end_,.slice x.A x.t.kids.length x.c] /\
   a'= { tmps:=#[.agg #[.int .i64 t.kind,.string t.text,.int .i64 t.at_,.int .i64 t.end_,.slice A t.kids.length c],.pointer (some ⟨w.heap.size,0,none⟩),.bool false,.pointer (some ⟨w1.heap.size,0,none⟩),.pointer (some ⟨w1.heap.size+1,0,none⟩),.pointer (some ⟨Bx,0,none⟩),undef,undef,.map (some r),.agg #[.int .i64 t.kind,.string t.text,.int .i64 t.at_,.int .i64 t.end_,.slice A t.kids.length c],
    .func (.func 199) #[] #[.pointer (some ⟨w1.heap.size+1+1,0,none⟩)],bB x.t x.A x.c,undef,undef,undef,undef,undef,undef,undef,undef,undef,undef,undef,undef,undef,undef,undef,undef,undef,undef,undef,undef,undef,undef,undef,undef,undef,undef,undef,undef,undef,undef,undef,undef,undef,undef,undef,undef,undef],defers:=[] })
  (fun x a' s X Y row hs hg hr=>by
   obtain⟨Bx,h2,h3,h4⟩:=hs
   exact⟨Bx,h2,yg (β:=Unit) W4.heap.size Bx _ (fun _=> #[.int .i64 x.t.kind,.string x.t.text,.int .i64 x.t.at_,.int .i64 x.t.end_,.slice x.A x.t.kids.length x.c]) () X Y row h3 hg hr,h4⟩) ?assign ?body ?done ?stop
 case assign=>
  rintro l pre x W K ⟨⟨hi1,hi2⟩,hi3,hi4⟩ hK;unfold bB at hK⊢;gi_wp2
  have E8:=hi4.size;exact hK _ _ ((KeepsOthers.alloc _ _).from _) (gM.of_below (ae _ _) rfl) ⟨⟨hi1.alloc _,hi2.alloc _⟩,hi3.trans ((ae _ _).mono hi3.size),hi4.trans ((ae _ _).mono (by omega))⟩ ⟨W.heap.size,by omega,ak.new W _ _,rfl⟩
 case body=>
  rintro l pre x a' W hl ⟨r0,hr0⟩ ⟨⟨hi1,hi2⟩,hi3,hi4⟩ ⟨Bx,hBx,bX,rfl⟩ hlt;have hxk:=x.kids;obtain⟨xk,Uy⟩:∃q,x.t.kind=q:=⟨_,rfl⟩
  obtain⟨xt,hxt0⟩:∃q,x.t.text=q:=⟨_,rfl⟩
  obtain⟨xa,hxa0⟩:∃q,x.t.at_=q:=⟨_,rfl⟩
  obtain⟨xz,hxz0⟩:∃q,x.t.end_=q:=⟨_,rfl⟩
  obtain⟨xn,Ux⟩:∃q,x.t.kids.length=q:=⟨_,rfl⟩
  unfold bB;rw[Uy,hxt0,hxa0,hxz0,Ux]at bX⊢;obtain⟨m,hmap,hm1,hm2⟩:=hsh;have hmW:=hmap.below hi3 hmap.lt;have hlk:=Bv (P:=Tryz.prog) (KK:=iN) (t:=191) (kt:=3) (et:=197) Tryz.underlying191 Tryz.underlying3 Tf hmW xk;have d0:=bX.cell 0;have d1:=bX.cell 1;have d2:=bX.cell 2;have d3:=bX.cell 3;have d4:=bX.cell 4;have dl:=bX.lt;have o0:=hi2.cell 0;have of:=hi2.frozen 0;have ol:=hi2.lt;have m0:=hi1.cell 0;have ml:=hi1.lt;obtain⟨pb,hpb⟩:∃b,(pre.all fun x=>dR x.t)=b:=⟨_,rfl⟩
  rw[hpb]at o0
  have hend:∀W' b,aA (fun g=>g=w1.heap.size+1) W W'->ak W' (w1.heap.size+1) 4 #[.bool b]->b=(pb&&dR x.t) ->
   KeepsFrom W4.heap.size W W'/\gM w.heap.size (w1.heap.size+3) W W'/\(ak W' w1.heap.size 191 #[.map (some r)]/\ak W' (w1.heap.size+1) 4 #[.bool ((pre++[x]).all fun x=>dR x.t)])/\Below w1.heap.size w1 W'/\Below w.heap.size W4 W':=fun W' b h1 h2 h3=>by
   refine⟨⟨h1.size,fun g o hg ho _=>(h1.block g (aae.1 ho).1 (by omega)).trans ho⟩,⟨h1.size,fun g o hg ho _=>(h1.block g (aae.1 ho).1 (by omega)).trans ho⟩,⟨hi1.since h1 (by omega),?_⟩,hi3.trans (h1.toBelow hi3.size (by omega)),hi4.trans (h1.toBelow (aac (by omega) hi4.size) (by omega))⟩;rw[h3]at h2;simpa [hpb] using h2
  have HST:Hid (∀X u,aA (fun g=>g=w1.heap.size+1) W X->aA (fun g=>g=w1.heap.size+1) W (X.setCell ⟨w1.heap.size+1,0,none⟩ u)):=kH (fun X u h=>h.setCell (.inl rfl) u);have LK:=kH (And.intro hi3 hi4);have bC:=kH hend;have HI2:=kH hi2
  have HSH:Hid (nP m xk=none->dR x.t=false):=kH (fun hl=>by
   unfold dR;rw[Uy]
   cases hsm:lZ xk with
   | none=>rfl
   | some sh=>
    have:=hm2 xk (by rw[hsm];rfl);rw[hl]at this
    cases this)
  have HVS:Hid (∀v,nP m xk=some v->∃sh,lZ xk=some sh/\qC w1 v sh):=kH (fun v hv=>hm1 _ (Wj hv));clear hend hi2 hm1 hm2 hi1 hi3 hi4 hmap hmW hM4 hO4 qc hk4 Ko
  cases hlo:nP m xk with
  | none=>
   rw[hlo]at hlk;simp only[Option.getD_none,Option.isSome_none]at hlk;have hlk1:(Instr.lookup 191 (.map (some r)) (.int .i64 xk) true).run Tryz.prog W= .ok (.tuple #[.agg #[.nilFunc,.slice none 0 0,.nilFunc,.int .i64 0],.bool false]) W:=hlk;have Hg:=kH hlo;clear hlk hlo;cases pb<;>gi_wp2_with (refine⟨trivial,?_⟩;go_at_K)
   all_goals exact bC.out _ false ((HST.out _ _ (aA.refl _ _)).alloc _) (ak.alloc (by simpa using HI2.out.gY 0 (.bool false)) _) (by first|rfl|(rw[HSH.out Hg.out];rfl))
  | some v=>
   rw[hlo]at hlk;simp only[Option.getD_some,Option.isSome_some]at hlk;have hlk1:(Instr.lookup 191 (.map (some r)) (.int .i64 xk) true).run Tryz.prog W= .ok (.tuple #[v,.bool true]) W:=hlk;obtain⟨sh,hsm,hsa⟩:=HVS.out v hlo;have Yy:=hsa;obtain⟨tv,Ak,ck,lv,hv,htext,hrow,hlist⟩:=hsa;obtain⟨ft,ct,e1,hent,hcall⟩:=htext
   have hlv:lv= .nilFunc\/∃f c,lv= .func (Fn.func f) #[] c:=by
    cases hl:sh.list with
    | none=>rw[hl]at hlist;exact .inl hlist
    | some p=>rw[hl]at hlist;obtain⟨f,c,h,_⟩:=hlist;exact .inr ⟨f,c,h⟩
   subst e1;clear hlk hent hcall hrow hlist HSH HVS;cases pb
   case false=>
    clear Yy;subst hv;have Hg:=kH hlo;have KS:=kH hsm;clear hlo hsm;rcases hlv with rfl| ⟨f,c,rfl⟩
    all_goals gi_wp2_with (refine⟨trivial,?_⟩;go_at_K)
    all_goals exact bC.out _ false ((HST.out _ _ (aA.refl _ _)).alloc _) (ak.alloc (by simpa using HI2.out.gY 0 (.bool false)) _) rfl
   case true=>
    obtain⟨fb,MG⟩:∃b,nR sh x.t=b:=⟨_,rfl⟩
    have hlz:=dU x.t.kids;have hce:=jO x.t;have hsm2:=x.small
    have hfit:∀Wa,Below W.heap.size W Wa->Calls Tryz.prog 143 #[v,.agg #[.int .i64 xk,.string xt,.int .i64 xa,.int .i64 xz,.slice x.A xn x.c]] Wa fun e W5=>(e= .returned (.bool fb)/\W5.cell? ⟨w1.heap.size+1,0,none⟩=some (.bool true)/\W5.frozen? ⟨w1.heap.size+1,0,none⟩=false/\w1.heap.size+1<W5.heap.size/\Bx<W5.heap.size /\
     W5.cell? ⟨Bx,0,none⟩=some (.int .i64 xk)/\W5.cell? ⟨Bx,4,none⟩=some (.slice x.A xn x.c)/\Hid (aA (fun g=>g=w1.heap.size+1) W W5/\ak W5 (w1.heap.size+1) 4 #[.bool true]/\Below w.heap.size W4 W5)):=fun Wa hWa=>by
     have hbW:=LK.out.1.trans (hWa.mono LK.out.1.size);have h:=Zf sh v x.t x.A x.c Wa w.heap.size (aac (by omega) hbW.size) (Yy.kc (KC.of_below hbW) hbW.size) (aK.below (LK.out.2.trans (hWa.mono (aac (by omega) LK.out.2.size))) (aab _) _ _ _ hxk) (by omega) (TC hsm);unfold bB at h;rw[Uy,hxt0,hxa0,hxz0,Ux,MG]at h;refine h.mono ?_;rintro e W5 ⟨h1,h2⟩;have h3:Below W.heap.size W W5:=hWa.trans (h2.mono hWa.size);have h4:=HI2.out.below h3 HI2.out.lt;rw[hpb]at h4;have h5:=bX.below h3 bX.lt;exact⟨h1,h4.cell 0,h4.frozen 0,h4.lt,h5.lt,h5.cell 0,h5.cell 4,kH ⟨(aA.refl _ _).below h3,h4,LK.out.2.trans (h3.mono (aac (by omega) LK.out.2.size))⟩⟩
    have HFB:=kH MG;have Hg:=kH hlo;have KS:=kH hsm;have HXK:=kH hxk;subst hv;have Kc:=hfit (W.alloc (.cells #[.func (Fn.func ft) #[] ct,.slice Ak sh.kids.length ck,lv,.int .i64 sh.most] 197)) (ae _ _);clear hlo hsm Yy hlz hce hsm2 MG hfit hxk bX
    have hfn:dR x.t=(fb&&(if xk=4 then CV x.t else true)):=by
     unfold dR;rw[Uy,KS.out];show(nR sh x.t&&_)=_;rw[HFB.out]
    have Ho:=kH hfn;clear hfn;by_cases hsp:fb=true/\xk=4
    case neg=>
     have hres:fb=(true&&dR x.t):=by
      rw[Ho.out];cases fb
      ·rfl
      ·have:xk≠4:=fun h=>hsp ⟨rfl,h⟩
       simp[this]
     have aV:=kH hres;clear hres;rcases hlv with rfl| ⟨f,c,rfl⟩
     all_goals gi_wp2_with (refine⟨trivial,?_⟩;gi_at_call 143;refine(CallsIn.inRound l (callsIn_wide.2 Kc)).mono ?_;clear Kc;rintro e W5 ⟨rfl,o1,of1,ol1,bl1,e0,e4,H5⟩)
     all_goals first
      | exact bC.out _ _ (HST.out _ _ H5.out.1) (by simpa using H5.out.2.1.gY 0 _) aV.out
      | (exfalso;simp_all;done)
    case pos=>
     obtain⟨rfl,rfl⟩:=hsp
     obtain⟨y,b,off,hA,hbl,hcs,hty⟩:∃y b off,x.A=some ⟨b,off,none⟩/\b<w.heap.size/\W4.cell? ⟨b,off+1,none⟩=some (.string y)/\xn=1/\CV x.t=iB y:=by
      have hxk:=HXK.out;have MG:=HFB.out
      have hl1:xn=1:=by
       have h1:some ⟨dJ,[dH [9]],none,0⟩=some sh:=KS.out;cases h1
       unfold nR oQ at MG;simp only[aad,decide_eq_true_eq]at MG;have:=MG.1.2;simp at this;omega
      unfold CV
      cases hks:x.t.kids with
      | nil=>rw[hks]at Ux;simp at Ux;omega
      | cons kt ks=>
       rw[hks]at hxk;obtain⟨⟨b,off,vals,h1,h2,h3,h4⟩,-⟩:=hxk;obtain⟨A',c',h5,-⟩:=h4.five;subst h5;exact⟨kt.text,b,off,h1,h2,by simpa using h3 1 _ rfl,hl1,rfl⟩
     obtain⟨hn1,hty⟩:=hty;have HFN2:Hid (dR x.t=iB y):=kH (by rw[Ho.out];simpa using hty);have HC:=kH hcs;clear hcs hty;rw[hA,hn1]at Kc
     have hfit3:=Kc.mono (R':=fun e W5=>e= .returned (.bool true)/\W5.cell? ⟨b,off+1,none⟩=some (.string y)/\b<W5.heap.size/\W5.cell? ⟨w1.heap.size+1,0,none⟩=some (.bool true)/\W5.frozen? ⟨w1.heap.size+1,0,none⟩=false/\w1.heap.size+1<W5.heap.size/\Bx<W5.heap.size /\
      W5.cell? ⟨Bx,0,none⟩=some (.int .i64 4)/\W5.cell? ⟨Bx,4,none⟩=some (.slice (some ⟨b,off,none⟩) 1 x.c)/\Hid (aA (fun g=>g=w1.heap.size+1) W W5/\ak W5 (w1.heap.size+1) 4 #[.bool true]/\Below w.heap.size W4 W5))
      (fun e W5 ⟨h1,h2,h3,h4,h5,h6,h7,h8⟩=>⟨h1,(h8.out.2.2.cell (p:=⟨b,_,none⟩) hbl).trans HC.out,by omega,h2,h3,h4,h5,h6,h7,h8⟩)
     clear Kc;rcases hlv with rfl| ⟨f,c,rfl⟩
     all_goals gi_wp2_with (refine⟨trivial,?_⟩;gi_at_call 143;refine(CallsIn.inRound l (callsIn_wide.2 hfit3)).mono ?_;clear hfit3;rintro e W5 ⟨rfl,k1,kl,o1,of1,ol1,bl1,e0,e4,H5⟩)
     all_goals
      rename_i hyi
      exact bC.out _ _ (HST.out _ _ (HST.out _ _ H5.out.1)) (by simpa using(H5.out.2.1.gY 0 (.bool true)).gY 0 _) (by rw[HFN2.out,Nu];simp[hyi])
 case done=>
  rintro D ys W hD hys ⟨⟨hi1,hi2⟩,hi3,hi4⟩ hK;have c0:=hi2.cell 0;have hK':=kH hK;have HF:=kH (hb1.trans (hi3.mono (by omega)));have hD2:w.heap.size<=D:=by omega
  have hall:(ys.all fun x=>dR x.t)=gU t:=by
   unfold gU;rw[<- hys,List.all_map];rfl
  rw[hall]at c0;clear hi1 hi2 hi3 hi4 hK hys hM4 hO4 qc hk4 Ko hsh hb1;gi_wp2
  refine⟨by simp,.inl ⟨_,_,rfl,run_takeDeferred hK'.out,?_⟩⟩;refine⟨_,results_tmp rfl _ _ _,?_⟩;exact⟨rfl,HF.out.trans (belowK_b (w:=w) (aab _) W D _ _ hD2 hK'.out rfl rfl)⟩
 case stop=>
  rintro D c pre W _ _ h _;exact h.elim
theorem M6(t:aa)(A:Option Addr)(c:Nat)(w:World)(hm:ai t<=1000000000)(hk:aK w w.heap.size A 0 t.kids):
 Calls Tryz.prog 40 #[bB t A c] w fun e w'=>e= .returned (.bool (j6 t))/\Below w.heap.size w w':=by
 obtain⟨q,hq⟩:∃q,j6 t=q:=⟨_,rfl⟩
 have hsh:=TB t A c (w.alloc (.cells #[.int .i64 t.kind,.string t.text,.int .i64 t.at_,.int .i64 t.end_,.slice A t.kids.length c] 24)) hm (aK.mono (by simp) _ _ _ (aK.below (ae _ _) (aab _) _ _ _ hk));have hb0:=ae w (.cells #[.int .i64 t.kind,.string t.text,.int .i64 t.at_,.int .i64 t.end_,.slice A t.kids.length c] 24);have O8:=hsh.mono (R':=fun e w'=>e= .returned (.bool (gU t))/\Below w.heap.size w w') (fun e w' ⟨h1,h2⟩=>⟨h1,hb0.trans (h2.mono (by simp))⟩);unfold bB at O8⊢;rw[hq];unfold j6 at hq;obtain⟨k,hk0⟩:∃q,t.kind=q:=⟨_,rfl⟩
 obtain⟨x,hx0⟩:∃q,t.text=q:=⟨_,rfl⟩
 obtain⟨a,ha0⟩:∃q,t.at_=q:=⟨_,rfl⟩
 obtain⟨z,hz0⟩:∃q,t.end_=q:=⟨_,rfl⟩
 obtain⟨n,hn0⟩:∃q,t.kids.length=q:=⟨_,rfl⟩
 obtain⟨sb,hsb⟩:∃q,gU t=q:=⟨_,rfl⟩
 rw[hk0,hx0,ha0,hz0,hn0]at O8 hb0⊢;rw[hsb]at O8 hq;rw[hk0]at hq;have HB0:=kH hb0;have HQ:=kH hq;clear hk hsh hk0 hx0 ha0 hz0 hn0 hsb hq hm hb0;by_cases h2:k=2
 ·subst h2
  go_enter Tryz.func40,Tryz.ntmps40
  go_wp2_with fail
  refine O8.mono ?_;rintro e w2 ⟨rfl,hb⟩;go_wp2_with fail
  go_ret
  exact⟨Oo (by rw[<- HQ.out];simp),hb⟩
 ·clear O8
  go_enter Tryz.func40,Tryz.ntmps40
  go_wp2_with fail
  go_ret
  exact⟨Oo (by rw[<- HQ.out];simp[h2]),HB0.out⟩
end Go.Proofs.YtoepemlnlpamlaaGreat
