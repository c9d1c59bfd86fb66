/- The law NamesStand holds: for every text and every number the law returns true, and its arguments read as before. No condition. Part 28: Srt2 Srt3 Inv Shp3. -/
import Derived.Test.YtoepemlnlpamlaaGreatStand02
import Derived.Test.YtoepemlnlpamlaaGreatStand13
import Derived.Test.YtoepemlnlpamlaaGreatStand17
import Derived.Test.YtoepemlnlpamlaaGreatStand27
set_option maxRecDepth 100000
set_option maxHeartbeats 4000000
namespace Go.Proofs.YtoepemlnlpamlaaGreat
open Go.RowKit
theorem sym_one(l:List (Int×Dg))(A:Option Addr)(n c a m b:Nat)(w:World)(hn:l.length=n)(hR:df 6 iR w w.heap.size A l)(hS:xO l)(h1:m=a+1)(iF:a<m)(hmb:m<b)(hb:b<=n)(hm:n<=1000000):
 Calls Tryz.prog 203 #[.slice A n c,.int .i64 (a:Int),.int .i64 (m:Int),.int .i64 (b:Int),.func (.func 81) #[] #[]] w fun e w'=>e= .returned (.tuple #[])/\Below w.heap.size w w':=by
 have HR:=kH hR;have HS:=kH hS;have HN:=kH hn;clear hR hS hn;have H1:=kH h1;have hw1:IntKind.i64.wrap ((m:Int) - (a:Int))=(m:Int) - (a:Int):=IntWalk.i64_in _ (by omega);have hc1:((m:Int) - (a:Int)==1)=true:=by simp;omega
 have hw2:IntKind.i64.wrap ((m:Int) - 1)=(m:Int) - 1:=IntWalk.i64_in _ (by omega);have hge:¬((a:Int)<(m:Int) - 1):=by omega
 clear h1;go_enter Tryz.func203,Tryz.ntmps203
 go_wp2_with fail
 go_loopg [10,11] (b - m) (fun gk s10 s11 wr=> ∃j:Nat,s10= .int .i64 (m:Int)/\s11= .int .i64 (j:Int)/\m<=j/\j<=b/\gk=j - m/\Hid (Below w.heap.size w wr))
 case atStart=>exact⟨b,rfl,rfl,by omega,aab _,rfl,kH (Below.refl _ _)⟩
 case round=>
  obtain⟨j,rfl,rfl,hmj,hjb,hgj,HB⟩:=hrel;by_cases hlt:m<j
  ·have hlt':(m:Int)<(j:Int):=by omega
   obtain⟨h,hh⟩:∃h:Nat,h=(m+j) / 2:=⟨_,rfl⟩
   have hdiv:((m:Int)+(j:Int)) / 2=(h:Int):=by omega
   have hhm:m<=h:=by omega
   have hhj:h<j:=by omega
   have hs1:IntKind.i64.wrap ((m:Int)+(j:Int))=(m:Int)+(j:Int):=IntWalk.i64_in _ (by omega);clear hh;obtain⟨p,hp⟩:∃p,l[h]? =some p:=⟨_,aaf (by rw[HN.out];omega)⟩
   obtain⟨q,hq⟩:∃q,l[a]? =some q:=⟨_,aaf (by rw[HN.out];omega)⟩
   have hcmp:=HS.out.cmp hq hp (by omega);have hRr:df 6 iR wr wr.heap.size A l:=HR.out.later HB.out;obtain⟨bb,off,hA,hbl,hcs⟩:=zW hRr hp hq;subst hA;obtain⟨p1,p2,p3,p4,p5,hpe⟩:∃p1 p2 p3 p4 p5,p=(p1,(⟨p2,p3,p4,p5⟩:Dg)):=⟨_,_,_,_,_,rfl⟩
   obtain⟨q1,q2,q3,q4,q5,hqe⟩:∃q1 q2 q3 q4 q5,q=(q1,(⟨q2,q3,q4,q5⟩:Dg)):=⟨_,_,_,_,_,rfl⟩
   subst hpe hqe;have hcall:=fun w'=>Cy p1 p2 p3 p4 q1 q2 q3 q4 p5 q5 (.slice none 0 0) (.slice none 0 0) w'
   rw[show AV p1 q1=1 from hcmp]at hcall;have HC:=kH hcall;have K8:=kH hcs;have hhn:h<n:=by omega
   have han:a<n:=by omega
   clear hcall hcs hcmp hp hq hRr;go_wp2_with fail
   go_region_held3 (fun w'=>w'.cell? ⟨bb,off+h*6,none⟩=some (.int .i64 p1)/\w'.cell? ⟨bb,off+h*6+1,none⟩=some (.int .i64 p2)/\w'.cell? ⟨bb,off+h*6+2,none⟩=some (.int .i64 p3)/\w'.cell? ⟨bb,off+h*6+3,none⟩=some (.int .i64 p4)/\w'.cell? ⟨bb,off+h*6+4,none⟩=some (.string p5)/\w'.cell? ⟨bb,off+h*6+5,none⟩=some (.slice none 0 0)/\w'.cell? ⟨bb,off+a*6,none⟩=some (.int .i64 q1)/\w'.cell? ⟨bb,off+a*6+1,none⟩=some (.int .i64 q2)/\w'.cell? ⟨bb,off+a*6+2,none⟩=some (.int .i64 q3)/\w'.cell? ⟨bb,off+a*6+3,none⟩=some (.int .i64 q4)/\w'.cell? ⟨bb,off+a*6+4,none⟩=some (.string q5)/\w'.cell? ⟨bb,off+a*6+5,none⟩=some (.slice none 0 0)) (exact K8.out _ (by first|assumption|exact(Below.refl _ _).drew)) ((go_at_call 81;refine(HC.out _).mono ?_;rintro e5 w5 ⟨rfl,hb5⟩;have hbr:Below wr.heap.size wr w5:=((Below.refl wr.heap.size wr).drew).trans hb5))
   have fT:Hid (Below w.heap.size w w5):=kH (HB.out.trans (hbr.mono HB.out.size));clear hbr hb5;go_wp2_with fail
   go_roundg (h - m)
   case measure=>omega
   case rel=>exact⟨h,rfl,rfl,hhm,by omega,rfl,fT⟩
  ·have hjm:j=m:=by omega
   subst hjm;have hnl:¬((j:Int)<(j:Int)):=by omega
   go_wp2_with fail
   refine wp_loop_rounds 1 ?_;rw[rounds_succ];go_wp2_with fail
   try simp only[Exit.inBlock,Exit.then]
   refine bodyPost_ret (results_none rfl _ _ _) rfl ?_;exact⟨rfl,HB.out⟩
theorem sym_two(l:List (Int×Dg))(A:Option Addr)(n c a m b:Nat)(w:World)(hn:l.length=n)(hR:df 6 iR w w.heap.size A l)(hS:xO l)(h1:m≠a+1)(h2:b=m+1)(iF:a<m)(hmb:m<b)(hb:b<=n)(hm:n<=1000000):
 Calls Tryz.prog 203 #[.slice A n c,.int .i64 (a:Int),.int .i64 (m:Int),.int .i64 (b:Int),.func (.func 81) #[] #[]] w fun e w'=>e= .returned (.tuple #[])/\Below w.heap.size w w':=by
 have HR:=kH hR;have HS:=kH hS;have HN:=kH hn;clear hR hS hn;have H2:=kH (And.intro h1 h2);have hw1:IntKind.i64.wrap ((m:Int) - (a:Int))=(m:Int) - (a:Int):=IntWalk.i64_in _ (by omega);have hc1:((m:Int) - (a:Int)==1)=false:=by simp;omega
 have hw3:IntKind.i64.wrap ((b:Int) - (m:Int))=(b:Int) - (m:Int):=IntWalk.i64_in _ (by omega);have hc3:((b:Int) - (m:Int)==1)=true:=by simp;omega
 clear h1 h2;go_enter Tryz.func203,Tryz.ntmps203
 go_wp2_with fail
 go_loopg [14,15] (m - a) (fun gk s14 s15 wr=> ∃i:Nat,s14= .int .i64 (i:Int)/\s15= .int .i64 (m:Int)/\a<=i/\i<=m/\gk=m - i/\Hid (Below w.heap.size w wr))
 case atStart=>exact⟨a,rfl,rfl,aab _,by omega,rfl,kH (Below.refl _ _)⟩
 case round=>
  obtain⟨i,rfl,rfl,hai,him,hgi,HB⟩:=hrel;by_cases hlt:i<m
  ·have hlt':(i:Int)<(m:Int):=by omega
   obtain⟨h,hh⟩:∃h:Nat,h=(i+m) / 2:=⟨_,rfl⟩
   have hdiv:((i:Int)+(m:Int)) / 2=(h:Int):=by omega
   have hhm:i<=h:=by omega
   have hhj:h<m:=by omega
   have hs1:IntKind.i64.wrap ((i:Int)+(m:Int))=(i:Int)+(m:Int):=IntWalk.i64_in _ (by omega);have hs2:IntKind.i64.wrap ((h:Int)+1)=(h:Int)+1:=IntWalk.i64_in _ (by omega);clear hh;obtain⟨p,hp⟩:∃p,l[m]? =some p:=⟨_,aaf (by rw[HN.out];omega)⟩
   obtain⟨q,hq⟩:∃q,l[h]? =some q:=⟨_,aaf (by rw[HN.out];omega)⟩
   have hcmp:=HS.out.cmp hq hp (by omega);have hRr:df 6 iR wr wr.heap.size A l:=HR.out.later HB.out;obtain⟨bb,off,hA,hbl,hcs⟩:=zW hRr hp hq;subst hA;obtain⟨p1,p2,p3,p4,p5,hpe⟩:∃p1 p2 p3 p4 p5,p=(p1,(⟨p2,p3,p4,p5⟩:Dg)):=⟨_,_,_,_,_,rfl⟩
   obtain⟨q1,q2,q3,q4,q5,hqe⟩:∃q1 q2 q3 q4 q5,q=(q1,(⟨q2,q3,q4,q5⟩:Dg)):=⟨_,_,_,_,_,rfl⟩
   subst hpe hqe;have hcall:=fun w'=>Cy p1 p2 p3 p4 q1 q2 q3 q4 p5 q5 (.slice none 0 0) (.slice none 0 0) w'
   rw[show AV p1 q1=1 from hcmp]at hcall;have HC:=kH hcall;have K8:=kH hcs;have hhn:h<n:=by omega
   have han:m<n:=by omega
   clear hcall hcs hcmp hp hq hRr;go_wp2_with fail
   go_region_held3 (fun w'=>w'.cell? ⟨bb,off+m*6,none⟩=some (.int .i64 p1)/\w'.cell? ⟨bb,off+m*6+1,none⟩=some (.int .i64 p2)/\w'.cell? ⟨bb,off+m*6+2,none⟩=some (.int .i64 p3)/\w'.cell? ⟨bb,off+m*6+3,none⟩=some (.int .i64 p4)/\w'.cell? ⟨bb,off+m*6+4,none⟩=some (.string p5)/\w'.cell? ⟨bb,off+m*6+5,none⟩=some (.slice none 0 0)/\w'.cell? ⟨bb,off+h*6,none⟩=some (.int .i64 q1)/\w'.cell? ⟨bb,off+h*6+1,none⟩=some (.int .i64 q2)/\w'.cell? ⟨bb,off+h*6+2,none⟩=some (.int .i64 q3)/\w'.cell? ⟨bb,off+h*6+3,none⟩=some (.int .i64 q4)/\w'.cell? ⟨bb,off+h*6+4,none⟩=some (.string q5)/\w'.cell? ⟨bb,off+h*6+5,none⟩=some (.slice none 0 0)) (exact K8.out _ (by first|assumption|exact(Below.refl _ _).drew)) ((go_at_call 81;refine(HC.out _).mono ?_;rintro e5 w5 ⟨rfl,hb5⟩;have hbr:Below wr.heap.size wr w5:=((Below.refl wr.heap.size wr).drew).trans hb5))
   have fT:Hid (Below w.heap.size w w5):=kH (HB.out.trans (hbr.mono HB.out.size));clear hbr hb5;go_wp2_with fail
   go_roundg (m - (h+1))
   case measure=>omega
   case rel=>exact⟨h+1,by simp,rfl,by omega,by omega,rfl,fT⟩
  ·have hjm:i=m:=by omega
   subst hjm;have hnl:¬((i:Int)<(i:Int)):=by omega
   go_wp2_with fail
   refine wp_loop_rounds 1 ?_;rw[rounds_succ];go_wp2_with fail
   try simp only[Exit.inBlock,Exit.then]
   refine bodyPost_ret (results_none rfl _ _ _) rfl ?_;exact⟨rfl,HB.out⟩
theorem sym_up(l:List (Int×Dg))(A:Option Addr)(n c a m b:Nat)(w:World)(hn:l.length=n)(hR:df 6 iR w w.heap.size A l)(hS:xO l)(h1:m≠a+1)(h2:b≠m+1)(mid:Nat)(hmd:mid=(a+b) / 2)(h3:mid<m)(hrec:∀w,df 6 iR w w.heap.size A l->Calls Tryz.prog 203 #[.slice A n c,.int .i64 (mid:Int),.int .i64 (m:Int),.int .i64 (b:Int),.func (.func 81) #[] #[]] w fun e w'=>e= .returned (.tuple #[])/\Below w.heap.size w w')(iF:a<m)(hmb:m<b)(hb:b<=n)(hm:n<=1000000):
 Calls Tryz.prog 203 #[.slice A n c,.int .i64 (a:Int),.int .i64 (m:Int),.int .i64 (b:Int),.func (.func 81) #[] #[]] w fun e w'=>e= .returned (.tuple #[])/\Below w.heap.size w w':=by
 have HR:=kH hR;have HS:=kH hS;have HN:=kH hn;clear hR hS hn;have Zv:=kH hrec;have Tc:=kH (And.intro h1 (And.intro h2 h3));have hw1:IntKind.i64.wrap ((m:Int) - (a:Int))=(m:Int) - (a:Int):=IntWalk.i64_in _ (by omega);have hc1:((m:Int) - (a:Int)==1)=false:=by simp;omega
 have hw3:IntKind.i64.wrap ((b:Int) - (m:Int))=(b:Int) - (m:Int):=IntWalk.i64_in _ (by omega);have hc3:((b:Int) - (m:Int)==1)=false:=by simp;omega
 have hw4:IntKind.i64.wrap ((a:Int)+(b:Int))=(a:Int)+(b:Int):=IntWalk.i64_in _ (by omega);have hmid:((a:Int)+(b:Int)) / 2=(mid:Int):=by omega
 obtain⟨nn,hnn⟩:∃nn:Nat,nn=mid+m:=⟨_,rfl⟩
 have ji:IntKind.i64.wrap ((mid:Int)+(m:Int))=(nn:Int):=by rw[hnn,IntWalk.i64_in _ (by omega)];omega
 obtain⟨pp,Wy⟩:∃pp:Nat,pp+1=nn:=⟨nn - 1,by omega⟩
 have hpv:IntKind.i64.wrap ((nn:Int) - 1)=(pp:Int):=by rw[IntWalk.i64_in _ (by omega)];omega
 obtain⟨s0,hs0⟩:∃s0:Nat,s0+b=nn:=⟨nn - b,by omega⟩
 have hsv:IntKind.i64.wrap ((nn:Int) - (b:Int))=(s0:Int):=by rw[IntWalk.i64_in _ (by omega)];omega
 have hev:IntKind.i64.wrap ((nn:Int) - (mid:Int))=(m:Int):=by rw[IntWalk.i64_in _ (by omega)];omega
 have hgt:(mid:Int)<(m:Int):=by omega
 have hmb':(m:Int)<(b:Int):=by omega
 have hn1:¬((m:Int)<(m:Int)):=by omega
 have hn2:¬((mid:Int)<(mid:Int)):=by omega
 have HF:Hid (mid=(a+b) / 2/\nn=mid+m/\pp+1=nn/\s0+b=nn):=kH ⟨hmd,hnn,Wy,hs0⟩;clear hmd hnn Wy hrec h1 h2 hs0;go_enter Tryz.func203,Tryz.ntmps203
 go_wp2_with fail
 go_loopg [20,21] (mid - s0) (fun gk s20 VP wr=> ∃i:Nat,s20= .int .i64 (i:Int)/\VP= .int .i64 (mid:Int)/\s0<=i/\i<=mid/\gk=mid - i/\Hid (Below w.heap.size w wr))
 case atStart=>exact⟨s0,rfl,rfl,aab _,by have:=HF.out;omega,rfl,kH (Below.refl _ _)⟩
 case round=>
  obtain⟨i,rfl,rfl,hai,him,hgi,HB⟩:=hrel;by_cases hlt:i<mid
  ·have hlt':(i:Int)<(mid:Int):=by omega
   obtain⟨h,hh⟩:∃h:Nat,h=(i+mid) / 2:=⟨_,rfl⟩
   have hdiv:((i:Int)+(mid:Int)) / 2=(h:Int):=by omega
   have hhm:i<=h:=by omega
   have hhj:h<mid:=by omega
   have hs1:IntKind.i64.wrap ((i:Int)+(mid:Int))=(i:Int)+(mid:Int):=IntWalk.i64_in _ (by have:=HF.out;omega);have hs2:IntKind.i64.wrap ((h:Int)+1)=(h:Int)+1:=IntWalk.i64_in _ (by have:=HF.out;omega);obtain⟨g,hg⟩:∃g:Nat,g+h=pp:=⟨pp - h,by have:=HF.out;omega⟩
   have hgv:IntKind.i64.wrap ((pp:Int) - (h:Int))=(g:Int):=by rw[IntWalk.i64_in _ (by have:=HF.out;omega)];omega
   have hgh:h<g:=by have:=HF.out;omega
   have hgn:g<n:=by have:=HF.out;omega
   clear hh hg;obtain⟨p,hp⟩:∃p,l[g]? =some p:=⟨_,aaf (by rw[HN.out];omega)⟩
   obtain⟨q,hq⟩:∃q,l[h]? =some q:=⟨_,aaf (by rw[HN.out];omega)⟩
   have hcmp:=HS.out.cmp hq hp (by omega);have hRr:df 6 iR wr wr.heap.size A l:=HR.out.later HB.out;obtain⟨bb,off,hA,hbl,hcs⟩:=zW hRr hp hq;subst hA;obtain⟨p1,p2,p3,p4,p5,hpe⟩:∃p1 p2 p3 p4 p5,p=(p1,(⟨p2,p3,p4,p5⟩:Dg)):=⟨_,_,_,_,_,rfl⟩
   obtain⟨q1,q2,q3,q4,q5,hqe⟩:∃q1 q2 q3 q4 q5,q=(q1,(⟨q2,q3,q4,q5⟩:Dg)):=⟨_,_,_,_,_,rfl⟩
   subst hpe hqe;have hcall:=fun w'=>Cy p1 p2 p3 p4 q1 q2 q3 q4 p5 q5 (.slice none 0 0) (.slice none 0 0) w'
   rw[show AV p1 q1=1 from hcmp]at hcall;have HC:=kH hcall;have K8:=kH hcs;have hhn:h<n:=by omega
   clear hcall hcs hcmp hp hq hRr;go_wp2_with fail
   go_region_held3 (fun w'=>w'.cell? ⟨bb,off+g*6,none⟩=some (.int .i64 p1)/\w'.cell? ⟨bb,off+g*6+1,none⟩=some (.int .i64 p2)/\w'.cell? ⟨bb,off+g*6+2,none⟩=some (.int .i64 p3)/\w'.cell? ⟨bb,off+g*6+3,none⟩=some (.int .i64 p4)/\w'.cell? ⟨bb,off+g*6+4,none⟩=some (.string p5)/\w'.cell? ⟨bb,off+g*6+5,none⟩=some (.slice none 0 0)/\w'.cell? ⟨bb,off+h*6,none⟩=some (.int .i64 q1)/\w'.cell? ⟨bb,off+h*6+1,none⟩=some (.int .i64 q2)/\w'.cell? ⟨bb,off+h*6+2,none⟩=some (.int .i64 q3)/\w'.cell? ⟨bb,off+h*6+3,none⟩=some (.int .i64 q4)/\w'.cell? ⟨bb,off+h*6+4,none⟩=some (.string q5)/\w'.cell? ⟨bb,off+h*6+5,none⟩=some (.slice none 0 0)) (exact K8.out _ (by first|assumption|exact(Below.refl _ _).drew)) ((go_at_call 81;refine(HC.out _).mono ?_;rintro e5 w5 ⟨rfl,hb5⟩;have hbr:Below wr.heap.size wr w5:=((Below.refl wr.heap.size wr).drew).trans hb5))
   have fT:Hid (Below w.heap.size w w5):=kH (HB.out.trans (hbr.mono HB.out.size));clear hbr hb5;go_wp2_with fail
   go_roundg (mid - (h+1))
   case measure=>omega
   case rel=>exact⟨h+1,by simp,rfl,by omega,by omega,rfl,fT⟩
  ·have hjm:i=mid:=by omega
   subst hjm;have hcall:=Zv.out wr (HR.out.later HB.out);have HC:=kH hcall;clear hcall;go_wp2_with fail
   refine HC.out.mono ?_;rintro e6 w6 ⟨rfl,hb6⟩;have nZ:Hid (Below w.heap.size w w6):=kH (HB.out.trans (hb6.mono HB.out.size));clear hb6;go_wp2_with fail
   go_end0
   exact⟨rfl,nZ.out⟩
theorem X0(l:List (Int×Dg))(A:Option Addr)(n c a m b:Nat)(w:World)(hn:l.length=n)(hR:df 6 iR w w.heap.size A l)(hS:xO l)(h1:m≠a+1)(h2:b≠m+1)(mid:Nat)(hmd:mid=(a+b) / 2)(h3:¬mid<m)(hrec:m<mid->∀w,df 6 iR w w.heap.size A l->Calls Tryz.prog 203 #[.slice A n c,.int .i64 (a:Int),.int .i64 (m:Int),.int .i64 (mid:Int),.func (.func 81) #[] #[]] w fun e w'=>e= .returned (.tuple #[])/\Below w.heap.size w w')(iF:a<m)(hmb:m<b)(hb:b<=n)(hm:n<=1000000):
 Calls Tryz.prog 203 #[.slice A n c,.int .i64 (a:Int),.int .i64 (m:Int),.int .i64 (b:Int),.func (.func 81) #[] #[]] w fun e w'=>e= .returned (.tuple #[])/\Below w.heap.size w w':=by
 have HR:=kH hR;have HS:=kH hS;have HN:=kH hn;clear hR hS hn;have Zv:=kH hrec;have Tc:=kH (And.intro h1 (And.intro h2 h3));have hw1:IntKind.i64.wrap ((m:Int) - (a:Int))=(m:Int) - (a:Int):=IntWalk.i64_in _ (by omega);have hc1:((m:Int) - (a:Int)==1)=false:=by simp;omega
 have hw3:IntKind.i64.wrap ((b:Int) - (m:Int))=(b:Int) - (m:Int):=IntWalk.i64_in _ (by omega);have hc3:((b:Int) - (m:Int)==1)=false:=by simp;omega
 have hw4:IntKind.i64.wrap ((a:Int)+(b:Int))=(a:Int)+(b:Int):=IntWalk.i64_in _ (by omega);have hmid:((a:Int)+(b:Int)) / 2=(mid:Int):=by omega
 obtain⟨nn,hnn⟩:∃nn:Nat,nn=mid+m:=⟨_,rfl⟩
 have ji:IntKind.i64.wrap ((mid:Int)+(m:Int))=(nn:Int):=by rw[hnn,IntWalk.i64_in _ (by omega)];omega
 obtain⟨pp,Wy⟩:∃pp:Nat,pp+1=nn:=⟨nn - 1,by omega⟩
 have hpv:IntKind.i64.wrap ((nn:Int) - 1)=(pp:Int):=by rw[IntWalk.i64_in _ (by omega)];omega
 have hev:IntKind.i64.wrap ((nn:Int) - (m:Int))=(mid:Int):=by rw[IntWalk.i64_in _ (by omega)];omega
 have hgt:¬((mid:Int)<(m:Int)):=by omega
 have ham':(a:Int)<(m:Int):=by omega
 have hn1:¬((m:Int)<(m:Int)):=by omega
 have hn2:¬((mid:Int)<(mid:Int)):=by omega
 have HF:Hid (mid=(a+b) / 2/\nn=mid+m/\pp+1=nn):=kH ⟨hmd,hnn,Wy⟩;clear hmd hnn Wy hrec h1 h2;go_enter Tryz.func203,Tryz.ntmps203
 go_wp2_with fail
 go_loopg [20,21] (m - a) (fun gk s20 VP wr=> ∃i:Nat,s20= .int .i64 (i:Int)/\VP= .int .i64 (m:Int)/\a<=i/\i<=m/\gk=m - i/\Hid (Below w.heap.size w wr))
 case atStart=>exact⟨a,rfl,rfl,aab _,by have:=HF.out;omega,rfl,kH (Below.refl _ _)⟩
 case round=>
  obtain⟨i,rfl,rfl,hai,him,hgi,HB⟩:=hrel;by_cases hlt:i<m
  ·have hlt':(i:Int)<(m:Int):=by omega
   obtain⟨h,hh⟩:∃h:Nat,h=(i+m) / 2:=⟨_,rfl⟩
   have hdiv:((i:Int)+(m:Int)) / 2=(h:Int):=by omega
   have hhm:i<=h:=by omega
   have hhj:h<m:=by omega
   have hs1:IntKind.i64.wrap ((i:Int)+(m:Int))=(i:Int)+(m:Int):=IntWalk.i64_in _ (by have:=HF.out;omega);have hs2:IntKind.i64.wrap ((h:Int)+1)=(h:Int)+1:=IntWalk.i64_in _ (by have:=HF.out;omega);obtain⟨g,hg⟩:∃g:Nat,g+h=pp:=⟨pp - h,by have:=HF.out;omega⟩
   have hgv:IntKind.i64.wrap ((pp:Int) - (h:Int))=(g:Int):=by rw[IntWalk.i64_in _ (by have:=HF.out;omega)];omega
   have hgh:h<g:=by have:=HF.out;omega
   have hgn:g<n:=by have:=HF.out;omega
   clear hh hg;obtain⟨p,hp⟩:∃p,l[g]? =some p:=⟨_,aaf (by rw[HN.out];omega)⟩
   obtain⟨q,hq⟩:∃q,l[h]? =some q:=⟨_,aaf (by rw[HN.out];omega)⟩
   have hcmp:=HS.out.cmp hq hp (by omega);have hRr:df 6 iR wr wr.heap.size A l:=HR.out.later HB.out;obtain⟨bb,off,hA,hbl,hcs⟩:=zW hRr hp hq;subst hA;obtain⟨p1,p2,p3,p4,p5,hpe⟩:∃p1 p2 p3 p4 p5,p=(p1,(⟨p2,p3,p4,p5⟩:Dg)):=⟨_,_,_,_,_,rfl⟩
   obtain⟨q1,q2,q3,q4,q5,hqe⟩:∃q1 q2 q3 q4 q5,q=(q1,(⟨q2,q3,q4,q5⟩:Dg)):=⟨_,_,_,_,_,rfl⟩
   subst hpe hqe;have hcall:=fun w'=>Cy p1 p2 p3 p4 q1 q2 q3 q4 p5 q5 (.slice none 0 0) (.slice none 0 0) w'
   rw[show AV p1 q1=1 from hcmp]at hcall;have HC:=kH hcall;have K8:=kH hcs;have hhn:h<n:=by omega
   clear hcall hcs hcmp hp hq hRr;go_wp2_with fail
   go_region_held3 (fun w'=>w'.cell? ⟨bb,off+g*6,none⟩=some (.int .i64 p1)/\w'.cell? ⟨bb,off+g*6+1,none⟩=some (.int .i64 p2)/\w'.cell? ⟨bb,off+g*6+2,none⟩=some (.int .i64 p3)/\w'.cell? ⟨bb,off+g*6+3,none⟩=some (.int .i64 p4)/\w'.cell? ⟨bb,off+g*6+4,none⟩=some (.string p5)/\w'.cell? ⟨bb,off+g*6+5,none⟩=some (.slice none 0 0)/\w'.cell? ⟨bb,off+h*6,none⟩=some (.int .i64 q1)/\w'.cell? ⟨bb,off+h*6+1,none⟩=some (.int .i64 q2)/\w'.cell? ⟨bb,off+h*6+2,none⟩=some (.int .i64 q3)/\w'.cell? ⟨bb,off+h*6+3,none⟩=some (.int .i64 q4)/\w'.cell? ⟨bb,off+h*6+4,none⟩=some (.string q5)/\w'.cell? ⟨bb,off+h*6+5,none⟩=some (.slice none 0 0)) (exact K8.out _ (by first|assumption|exact(Below.refl _ _).drew)) ((go_at_call 81;refine(HC.out _).mono ?_;rintro e5 w5 ⟨rfl,hb5⟩;have hbr:Below wr.heap.size wr w5:=((Below.refl wr.heap.size wr).drew).trans hb5))
   have fT:Hid (Below w.heap.size w w5):=kH (HB.out.trans (hbr.mono HB.out.size));clear hbr hb5;go_wp2_with fail
   go_roundg (m - (h+1))
   case measure=>omega
   case rel=>exact⟨h+1,by simp,rfl,by omega,by omega,rfl,fT⟩
  ·have hjm:i=m:=by omega
   subst hjm;by_cases hlm:i<mid
   ·have hlm':(i:Int)<(mid:Int):=by omega
    have hcall:=Zv.out hlm wr (HR.out.later HB.out);have HC:=kH hcall;clear hcall;go_wp2_with fail
    refine HC.out.mono ?_;rintro e6 w6 ⟨rfl,hb6⟩;have nZ:Hid (Below w.heap.size w w6):=kH (HB.out.trans (hb6.mono HB.out.size));clear hb6;go_wp2_with fail
    go_end0
    exact⟨rfl,nZ.out⟩
   ·have hlm':¬((i:Int)<(mid:Int)):=by omega
    go_wp2_with fail
    go_end0
    exact⟨rfl,HB.out⟩
theorem Lh(l:List (Int×Dg))(A:Option Addr)(n c:Nat)(hn:l.length=n)(hS:xO l)(hm:n<=1000000):∀(k a m b:Nat),b - a<=k->a<m->m<b->b<=n->∀w:World,df 6 iR w w.heap.size A l ->
 Calls Tryz.prog 203 #[.slice A n c,.int .i64 (a:Int),.int .i64 (m:Int),.int .i64 (b:Int),.func (.func 81) #[] #[]] w fun e w'=>e= .returned (.tuple #[])/\Below w.heap.size w w'
 | 0,a,m,b,h,h1,h2,_,_,_=>by omega
 | k+1,a,m,b,h,h1,h2,h3,w,hR=>by
  by_cases e1:m=a+1
  ·exact sym_one l A n c a m b w hn hR hS e1 h1 h2 h3 hm
  by_cases e2:b=m+1
  ·exact sym_two l A n c a m b w hn hR hS e1 e2 h1 h2 h3 hm
  by_cases e3:(a+b) / 2<m
  ·exact sym_up l A n c a m b w hn hR hS e1 e2 _ rfl e3 (fun w hR=>Lh l A n c hn hS hm k _ m b (by omega) e3 h2 h3 w hR) h1 h2 h3 hm
  ·exact X0 l A n c a m b w hn hR hS e1 e2 _ rfl e3 (fun hlt w hR=>Lh l A n c hn hS hm k a m _ (by omega) h1 hlt (by omega) w hR) h1 h2 h3 hm
theorem Tx(l:List (Int×Dg))(A:Option Addr)(n c:Nat)(w:World)(hn:l.length=n)(hR:df 6 iR w w.heap.size A l)(hS:xO l)(hm:n<=1000000):
 Calls Tryz.prog 150 #[.slice A n c,.int .i64 (n:Int),.func (.func 81) #[] #[]] w fun e w'=>e= .returned (.tuple #[])/\Below w.heap.size w w':=by
 have hins:∀(a b:Nat) (w1:World),Below w.heap.size w w1->a<=b->b<=n->Calls Tryz.prog 202 #[.slice A n c,.int .i64 (a:Int),.int .i64 (b:Int),.func (.func 81) #[] #[]] w1 fun e w'=>e= .returned (.tuple #[])/\Below w.heap.size w w':=fun a b w1 hb h1 h2=>
  (ins_any l A n c a b w1 hn (hR.later hb) hS h1 h2 hm).mono fun e w' ⟨h3,h4⟩=>⟨h3,hb.trans (h4.mono hb.size)⟩
 have hsym:∀(a m b:Nat) (w1:World),Below w.heap.size w w1->a<m->m<b->b<=n->Calls Tryz.prog 203 #[.slice A n c,.int .i64 (a:Int),.int .i64 (m:Int),.int .i64 (b:Int),.func (.func 81) #[] #[]] w1 fun e w'=>e= .returned (.tuple #[])/\Below w.heap.size w w':=fun a m b w1 hb h1 h2 h3=>
  (Lh l A n c hn hS hm (b - a) a m b (aab _) h1 h2 h3 w1 (hR.later hb)).mono fun e w' ⟨h3,h4⟩=>⟨h3,hb.trans (h4.mono hb.size)⟩
 have HINS:=kH hins;have HSYM:=kH hsym;clear hins hsym hn hR hS;go_enter Tryz.func150,Tryz.ntmps150
 go_wp2_with fail
 go_loopg [7,8] (n+1) (fun gk s7 s8 wr=> ∃i:Nat,s7= .int .i64 (i:Int)/\s8= .int .i64 ((i:Int)+20)/\i<=n/\gk=n+1 - i/\Hid (Below w.heap.size w wr))
 case atStart=>exact⟨0,rfl,rfl,Nat.zero_le _,rfl,kH (Below.refl _ _)⟩
 case round=>
  obtain⟨i,rfl,rfl,hin,hgi,HB⟩:=hrel;by_cases hle:i+20<=n
  ·have hle':(i:Int)+20<=(n:Int):=by omega
   have hw:IntKind.i64.wrap ((i:Int)+20+20)=(i:Int)+20+20:=IntWalk.i64_in _ (by omega);have hcall:=HINS.out i (i+20) wr HB.out (by omega) hle;rw[show((i+20:Nat):Int)=(i:Int)+20 by omega]at hcall;have HC:=kH hcall;clear hcall;go_wp2_with fail
   refine HC.out.mono ?_;rintro e5 w5 ⟨rfl,hb5⟩;have fT:=kH hb5;clear hb5;go_wp2_with fail
   go_roundg (n+1 - (i+20))
   case measure=>omega
   case rel=>exact⟨i+20,by simp,by simp,hle,rfl,fT⟩
  ·have hgt:¬((i:Int)+20<=(n:Int)):=by omega
   have hcall:=HINS.out i n wr HB.out hin (aab _);have HC:=kH hcall;clear hcall;go_wp2_with fail
   refine HC.out.mono ?_;rintro e5 w5 ⟨rfl,hb5⟩;have fT:=kH hb5;clear hb5;go_wp2_with fail
   obtain⟨wo,hwo⟩:∃wo:World,wo=w5:=⟨_,rfl⟩
   go_loopg [6] (n+1 - 20) (fun gk s6 wr=> ∃s:Nat,s6= .int .i64 (s:Int)/\20<=s/\s<=n+n+20/\gk=n+1 - s/\Hid (Below w.heap.size w wr))
   case atStart=>exact⟨20,rfl,aab _,by omega,by omega,fT⟩
   case round=>
    obtain⟨s,rfl,hs20,hsn,hgs,HBs⟩:=hrel;by_cases hlt:s<n
    ·have hlt':(s:Int)<(n:Int):=by omega
     have hw2:IntKind.i64.wrap (2*(s:Int))=2*(s:Int):=IntWalk.i64_in _ (by omega);have hw3:IntKind.i64.wrap ((s:Int)*2)=(s:Int)*2:=IntWalk.i64_in _ (by omega);go_wp2_with fail
     obtain⟨go,hgo⟩:∃go:Nat,go=gk:=⟨_,rfl⟩
     go_loopg [7,8] (n+1) (fun gk s7 s8 wr=> ∃i:Nat,s7= .int .i64 (i:Int)/\s8= .int .i64 ((i:Int)+2*(s:Int))/\i<=n/\gk=n+1 - i/\Hid (Below w.heap.size w wr))
     case atStart=>exact⟨0,rfl,by simp,Nat.zero_le _,rfl,HBs⟩
     case round=>
      obtain⟨i2,rfl,rfl,hin2,hgi2,HB2⟩:=hrel;have hw5:IntKind.i64.wrap ((i2:Int)+(s:Int))=(i2:Int)+(s:Int):=IntWalk.i64_in _ (by omega);by_cases hle2:i2+2*s<=n
      ·have hle2':(i2:Int)+2*(s:Int)<=(n:Int):=by omega
       have hw6:IntKind.i64.wrap ((i2:Int)+2*(s:Int)+2*(s:Int))=(i2:Int)+2*(s:Int)+2*(s:Int):=IntWalk.i64_in _ (by omega);have hcall:=HSYM.out i2 (i2+s) (i2+2*s) _ HB2.out (by omega) (by omega) hle2;rw[show((i2+s:Nat):Int)=(i2:Int)+(s:Int) by omega,show((i2+2*s:Nat):Int)=(i2:Int)+2*(s:Int) by omega]at hcall;have ug:=kH hcall;clear hcall;go_wp2_with fail
       refine ug.out.mono ?_;rintro e6 w6 ⟨rfl,hb6⟩;have nZ:=kH hb6;clear hb6;go_wp2_with fail
       go_roundg (n+1 - (i2+2*s))
       case measure=>omega
       case rel=>exact⟨i2+2*s,by simp,by simp,hle2,rfl,nZ⟩
      ·have hgt2:¬((i2:Int)+2*(s:Int)<=(n:Int)):=by omega
       by_cases hm2:i2+s<n
       ·have hm2':(i2:Int)+(s:Int)<(n:Int):=by omega
        have hcall:=HSYM.out i2 (i2+s) n _ HB2.out (by omega) (by omega) (aab _);rw[show((i2+s:Nat):Int)=(i2:Int)+(s:Int) by omega]at hcall;have ug:=kH hcall;clear hcall;go_wp2_with fail
        refine ug.out.mono ?_;rintro e6 w6 ⟨rfl,hb6⟩;have nZ:=kH hb6;clear hb6;go_wp2_with fail
        go_roundg (n+1 - 2*s)
        case measure=>omega
        case rel=>exact⟨2*s,by simp;omega,by omega,by omega,rfl,nZ⟩
       ·have hm2':¬((i2:Int)+(s:Int)<(n:Int)):=by omega
        go_wp2_with fail
        go_roundg (n+1 - 2*s)
        case measure=>omega
        case rel=>exact⟨2*s,by simp;omega,by omega,by omega,rfl,HB2⟩
    ·have hge:¬((s:Int)<(n:Int)):=by omega
     go_wp2_with fail
     go_end0
     exact⟨rfl,HBs.out⟩
theorem Li(l:List (Int×Dg))(A:Option Addr)(n c:Nat)(w:World)(hn:l.length=n)(hR:df 6 iR w w.heap.size A l)(hS:xO l)(hm:n<=1000000):
 Calls Tryz.prog 80 #[.slice A n c,.func (.func 81) #[] #[]] w fun e w'=>e= .returned (.tuple #[])/\Below w.heap.size w w':=by
 have hc:=Tx l A n c w hn hR hS hm;have HC:=kH hc;clear hc hn hR hS;go_enter Tryz.func80,Tryz.ntmps80
 go_wp2_with fail
 refine HC.out.mono ?_;rintro e w2 ⟨rfl,hb⟩;have HB:=kH hb;clear hb HC;go_wp2_with fail
 go_end0
 exact⟨rfl,HB.out⟩
end Go.Proofs.YtoepemlnlpamlaaGreat
namespace Go.Proofs.YtoepemlnlpamlaaGreat
def yZ:List Bool->Nat
 | []=>0
 | b::l=>(if b then 0 else 1)+yZ l
theorem Qm:∀(l:List Bool) (i:Nat),l[i]? =some false->yZ (l.set i true)+1=yZ l
 | [],i,h=>by simp at h
 | b::l,0,h=>by
  simp at h;subst h;simp[yZ];omega
 | b::l,i+1,h=>by
  have:=Qm l i (by simpa using h);simp only[sC,yZ];omega
theorem MX:∀(l:List Bool),yZ l=0->∀i,i<l.length->l[i]? =some true
 | [],_,i,h=>by simp at h
 | b::l,h,0,_=>by
  cases b with
  | true=>rfl
  | false=>simp[yZ]at h
 | b::l,h,i+1,hi=>by
  have:yZ l=0:=by unfold yZ at h;omega
  simpa using MX l this i (by simpa using hi)
theorem Zi(n:Nat):yZ (List.replicate n false)=n:=by
 induction n with
 | zero=>rfl
 | succ n ih=>simp only[List.replicate_succ,yZ,ih];simp;omega
section
variable {P:Program}{ops:Array Oper}{Q:Exit->Act->World->Prop}{md:Region.Mode}
theorem Vh(Dt:∀(i:Nat) (o:Oper),ops[i]? =some o->∀e∈o.after,e.on<i){listed:Array Bool}(hs:listed.size=ops.size)(hr:Region.ready md ops listed=[]):∀i,i<ops.size->listed.getD i true=true:=by
 intro i
 induction i using Nat.strongRecOn with
 | ind i ih=>
  intro hi
  cases hl:listed.getD i true with
  | true=>rfl
  | false=>
   exfalso
   have ho:ops[i]? =some ops[i]:=Array.getElem?_eq_getElem hi
   have:i∈Region.ready md ops listed:=mem_ready.2 ⟨hl,ops[i],ho,fun e he _=>by
    have h1:=Dt i _ ho e he;have h2:=ih e.on h1 (by omega);have h3:e.on<listed.size:=by omega
    simp[h3]at h2⊢
    exact h2⟩
   rw[hr]at this;cases this
theorem Vz(I:Array Bool->Act->World->Prop)(Dt:∀(i:Nat) (o:Oper),ops[i]? =some o->∀e∈o.after,e.on<i)
 (hstep:∀listed a w i,listed.size=ops.size->I listed a w->i∈Region.ready md ops listed->wpOp P ops Q i (I (listed.setIfInBounds i true)) a w)
 (hend:∀listed a w,listed.size=ops.size->(∀i,i<ops.size->listed.getD i true=true)->I listed a w->Q .normal a w):
 ∀(fuel:Nat) (listed:Array Bool) (a:Act) (w:World),listed.size=ops.size->yZ listed.toList<=fuel->I listed a w->wpAny P md ops Q fuel listed a w:=by
 intro fuel
 induction fuel with
 | zero=>
  intro listed a w hs hc hI
  have hall:∀i,i<ops.size->listed.getD i true=true:=by
   intro i hi;have:=MX listed.toList (by omega) i (by simpa [hs] using hi);have h2:i<listed.size:=by omega
   simp[h2]at this⊢;exact this
  refine⟨?_,hend listed a w hs hall hI⟩
  cases hr:Region.ready md ops listed with
  | nil=>rfl
  | cons j l=>
   exfalso
   have hj:j∈Region.ready md ops listed:=by rw[hr];simp
   obtain⟨h1,o,h2,-⟩:=mem_ready.1 hj;have h3:j<ops.size:=(aae.1 h2).1;rw[hall j h3]at h1
   cases h1
 | succ fuel ih=>
  intro listed a w hs hc hI;refine⟨fun hr=>hend listed a w hs (Vh Dt hs hr) hI,fun i hi=>?_⟩;have h1:=(mem_ready.1 hi).1;obtain⟨o,h2,-⟩:=(mem_ready.1 hi).2;have h3:i<ops.size:=(aae.1 h2).1;have h4:i<listed.size:=by omega
  have h5:listed.toList[i]? =some false:=by simp[h4]at h1⊢;exact h1
  refine wpOp_mono (fun a' w' hI'=>ih _ a' w' (by simpa using hs) ?_ hI') (hstep listed a w i hs hI hi);have:=Qm listed.toList i h5;rw[Array.toList_setIfInBounds];omega
theorem Nl{id:Nat}{a:Act}{w:World}{l:List Oper}(I:Array Bool->Act->World->Prop)(hm:P.follows .mixedOrders=true)
 (Dt:∀(i:Nat) (o:Oper),l.toArray[i]? =some o->∀e∈o.after,e.on<i)
 (h0:I (Array.replicate l.toArray.size false) a w.drew)
 (hstep:∀listed a w i,listed.size=l.toArray.size->I listed a w->i∈Region.ready .any l.toArray listed->wpOp P l.toArray (NoPanic Q) i (I (listed.setIfInBounds i true)) a w)
 (hend:∀listed a w,listed.size=l.toArray.size->(∀i,i<l.toArray.size->listed.getD i true=true)->I listed a w->Q .normal a w):(Code.region id l.toArray true).wp P Q a w:=by
 refine wp_region_noPanic (wp_region_any hm ?_);exact Vz (md:=.any) I Dt hstep (fun listed a w h1 h2 h3=>(hend listed a w h1 h2 h3:Q .normal a w)) l.toArray.size _ a _ (by simp) (by rw[Array.toList_replicate,Zi];exact aab _) h0
def DD(ops:Array Oper)(T:Nat->World->Value->Prop)(listed:Array Bool)(a:Act)(w:World):Prop:=
 ∀(i:Nat) (o:Oper) (t:Nat),ops[i]? =some o->o.dst=some t->listed.getD i false=true->∃v,a.tmps[t]? =some v/\T t w v
theorem DD.put{T:Nat->World->Value->Prop}{listed:Array Bool}{a:Act}{w w':World}(h:DD ops T listed a w)(hs:listed.size=ops.size)(hT:∀t v,T t w v->T t w' v)
 (hinj:∀(i j:Nat) (o o':Oper) (t:Nat),ops[i]? =some o->ops[j]? =some o'->o.dst=some t->o'.dst=some t->i=j)
 {i:Nat}{o:Oper}{t:Nat}{v:Value}(ho:ops[i]? =some o) (hd:o.dst=some t) (ht:t<a.tmps.size) (hv:T t w' v):DD ops T (listed.setIfInBounds i true) (a.put o.dst v) w':=by
 intro j o' t' ho' hd' hl;rw[hd];have hput:(a.put (some t) v).tmps=a.tmps.setIfInBounds t v:=rfl;rw[hput];by_cases hji:j=i
 ·subst hji
  rw[ho]at ho';cases ho'
  rw[hd]at hd';cases hd'
  exact⟨v,by simp[ht],hv⟩
 ·have hl2:listed.getD j false=true:=by
   have h3:j<listed.size:=by have:=(aae.1 ho').1;omega
   simp[h3,Ne.symm hji]at hl⊢;exact hl
  obtain⟨v',h1,h2⟩:=h j o' t' ho' hd' hl2
  have hne:t'≠t:=by
   rintro rfl;exact hji (hinj j i o' o t' ho' ho hd' hd)
  exact⟨v',by rw[Array.getElem?_setIfInBounds_ne (Ne.symm hne)];exact h1,hT _ _ h2⟩
theorem DD.skip{T:Nat->World->Value->Prop}{listed:Array Bool}{a:Act}{w w':World}(h:DD ops T listed a w)(hs:listed.size=ops.size)(hT:∀t v,T t w v->T t w' v)
 {i:Nat}{o:Oper}(ho:ops[i]? =some o) (hd:o.dst=none):DD ops T (listed.setIfInBounds i true) a w':=by
 intro j o' t' ho' hd' hl;by_cases hji:j=i
 ·subst hji
  rw[ho]at ho';cases ho'
  rw[hd]at hd';cases hd'
 ·have hl2:listed.getD j false=true:=by
   have h3:j<listed.size:=by have:=(aae.1 ho').1;omega
   simp[h3,Ne.symm hji]at hl⊢;exact hl
  obtain⟨v',h1,h2⟩:=h j o' t' ho' hd' hl2;exact⟨v',h1,hT _ _ h2⟩
end
open Go.RowKit
structure xw where
 text:ByteArray->Bool
 kids:List (Int->Bool)
 list:Option (Int->Bool)
 most:Int
def dH(l:List Int):Int->Bool:=fun k=>l.any fun y=>decide (k=y)
def jm(p:Int->Bool):Int->Bool:=fun k=>decide (k=0) || p k
def wm(l:List ByteArray):ByteArray->Bool:=fun s=>nW l s
def dJ:ByteArray->Bool:=fun s=>zB s.data.toList
def jT:ByteArray->Bool:=fun s=>decide (s.size=0)
def F4:List ByteArray:=[⟨#[105,110,116]⟩,⟨#[98,111,111,108]⟩]
def XW:ByteArray->Bool:=fun s=>wm F4 s || dJ s
def BJ:List ByteArray:=[⟨#[116,114,117,101]⟩,⟨#[102,97,108,115,101]⟩]
def LZ:List ByteArray:=[⟨#[45]⟩,⟨#[110,111,116]⟩]
def FD:List ByteArray:=[⟨#[111,114]⟩,⟨#[97,110,100]⟩,⟨#[61,61]⟩,⟨#[33,61]⟩,⟨#[60]⟩,⟨#[60,61]⟩,⟨#[62]⟩,⟨#[62,61]⟩,⟨#[43]⟩,⟨#[45]⟩,⟨#[42]⟩,⟨#[47]⟩,⟨#[37]⟩]
def tF:Nat->Option xw
 | 0=>some ⟨jT,[],none,0⟩
 | 2=>some ⟨jT,[],some (dH [3,5]),0⟩
 | 3=>some ⟨dJ,[],some (dH [4]),1⟩
 | 4=>some ⟨dJ,[dH [9]],none,0⟩
 | 5=>some ⟨dJ,[dH [6],jm eQ,dH [11]],none,0⟩
 | 6=>some ⟨jT,[],some (dH [7,8]),0⟩
 | 7=>some ⟨dJ,[jm eQ],none,0⟩
 | 8=>some ⟨dJ,[jm eQ],none,0⟩
 | 9=>some ⟨XW,[],none,0⟩
 | 10=>some ⟨qA,[],none,0⟩
 | 11=>some ⟨jT,[],some uy,0⟩
 | 12=>some ⟨dJ,[jm eQ,bA],none,0⟩
 | 13=>some ⟨jT,[nH,bA],none,0⟩
 | 14=>some ⟨jT,[bA,dH [11],jm (dH [11,14])],none,0⟩
 | 15=>some ⟨jT,[bA,dH [11]],none,0⟩
 | 16=>some ⟨dJ,[bA,bA,dH [11]],none,0⟩
 | 17=>some ⟨jT,[jm bA],none,0⟩
 | 18=>some ⟨jT,[bA],none,0⟩
 | 19=>some ⟨dJ,[],some bA,0⟩
 | 20=>some ⟨dJ,[],none,0⟩
 | 21=>some ⟨jT,[dH [20],bA],none,0⟩
 | 22=>some ⟨dJ,[dH [20]],none,0⟩
 | 23=>some ⟨jT,[dH [20]],none,0⟩
 | 24=>some ⟨qA,[],none,0⟩
 | 25=>some ⟨wm BJ,[],none,0⟩
 | 26=>some ⟨jT,[],some bA,1⟩
 | 27=>some ⟨dJ,[],some bA,0⟩
 | 28=>some ⟨wm LZ,[bA],none,0⟩
 | 29=>some ⟨wm FD,[bA,bA],none,0⟩
 | _=>none
def lZ:Int->Option xw
 | .ofNat n=>tF n
 | .negSucc _=>none
def Gj(w:World)(A:Option Addr)(ps:List (Int->Bool)):Prop:=
 ∀i p,ps[i]? =some p->∃b off v,A=some ⟨b,off,none⟩/\w.cell? ⟨b,off+i,none⟩=some v/\jU w v p
theorem Gj.kc{w w':World}{A:Option Addr}{ps:List (Int->Bool)}(h:Gj w A ps)(hk:KC w w')(hs:w.heap.size<=w'.heap.size):Gj w' A ps:=by
 intro i p hp;obtain⟨b,off,v,h1,h2,h3⟩:=h i p hp;exact⟨b,off,v,h1,hk.cell h2,h3.kc hk hs⟩
def ListFn(w:World)(v:Value):Option (Int->Bool)->Prop
 | none=>v= .nilFunc
 | some p=>jU w v p
def qC(w:World)(v:Value)(sh:xw):Prop:=
 ∃tv A c lv,v= .agg #[tv,.slice A sh.kids.length c,lv,.int .i64 sh.most]/\qj w tv sh.text/\Gj w A sh.kids/\ListFn w lv sh.list
theorem qC.kc{w w':World}{v:Value}{sh:xw}(h:qC w v sh)(hk:KC w w')(hs:w.heap.size<=w'.heap.size):qC w' v sh:=by
 obtain⟨tv,A,c,lv,h1,h2,h3,h4⟩:=h;refine⟨tv,A,c,lv,h1,h2.kc hk hs,h3.kc hk hs,?_⟩
 cases hl:sh.list with
 | none=>rw[hl]at h4;exact h4
 | some p=>rw[hl]at h4;exact jU.kc h4 hk hs
inductive Tg where
 | any
 | ints (l:List Int)
 | strs (l:List ByteArray)
 | kind (p:Int->Bool)
 | text (p:ByteArray->Bool)
 | sO (ps:List (Int->Bool))
 | shape (sh:xw)
def y7(w:World)(v:Value):Tg->Prop
 | .any=>True
 | .ints l=> ∃A c,v= .slice A l.length c/\df 1 iO w w.heap.size A l
 | .strs l=> ∃A c,v= .slice A l.length c/\df 1 fP w w.heap.size A l
 | .kind p=>jU w v p
 | .text p=>qj w v p
 | .sO ps=> ∃A c,v= .slice A ps.length c/\Gj w A ps
 | .shape sh=>qC w v sh
theorem y7.kc{w w':World}{v:Value}(hk:KC w w')(hs:w.heap.size<=w'.heap.size):∀{g:Tg},y7 w v g->y7 w' v g
 | .any,h=>h
 | .ints _,h=>by
  obtain⟨A,c,h1,h2⟩:=h;exact⟨A,c,h1,(h2.kc hk).mono hs⟩
 | .strs _,h=>by
  obtain⟨A,c,h1,h2⟩:=h;exact⟨A,c,h1,(h2.kc hk).mono hs⟩
 | .kind _,h=>jU.kc h hk hs
 | .text _,h=>qj.kc h hk hs
 | .sO _,h=>by
  obtain⟨A,c,h1,h2⟩:=h;exact⟨A,c,h1,h2.kc hk hs⟩
 | .shape _,h=>qC.kc h hk hs
def Bz(id:Nat):Code->Option (List Oper)
 | .region i ops _=>if i=id then some ops.toList else none
 | .seq a b=>(Bz id a).or (Bz id b)
 | .cond _ a b=>(Bz id a).or (Bz id b)
 | .block _ a=>Bz id a
 | .loop a=>Bz id a
 | .scope a=>Bz id a
 | _=>none
def aG(f:Func)(id:Nat):List Oper:=((f.body).bind (Bz id)).getD []
theorem Md:(aG Tryz.f141 4).length=138:=by kernel_rfl
theorem dE{ops:Array Oper}{md:Region.Mode}{listed:Array Bool}{i j:Nat}(hi:i∈Region.ready md ops listed)(h:(ops[i]?).map (fun o=>o.after.toList.any fun e=>Region.binds md e&&(e.on==j))=some true):listed.getD j false=true:=by
 obtain⟨-,o,ho,hall⟩:=mem_ready.1 hi;rw[ho]at h;simp only[Option.map_some,aag,List.any_eq_true,aad,beq_iff_eq]at h;obtain⟨e,h1,h2,h3⟩:=h;rw[<- h3];exact hall e (by simpa using h1) h2
theorem aM{a:Act}{t:Nat}{v:Value}(h:a.tmps[t]? =some v):a.eval (.tmp t)=v:=by
 simp[Act.eval,h]
end Go.Proofs.YtoepemlnlpamlaaGreat
