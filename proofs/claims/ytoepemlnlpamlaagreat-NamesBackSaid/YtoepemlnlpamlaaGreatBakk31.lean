/- The law NamesBack holds for every text and every number: it returns true, and its arguments read as before. No condition. Part 31: Srt2 Srt3 Res1. -/
import Derived.Test.YtoepemlnlpamlaaGreatBakk23
import Derived.Test.YtoepemlnlpamlaaGreatBakk30
set_option maxRecDepth 100000
set_option maxHeartbeats 4000000
namespace Go.Proofs.YtoepemlnlpamlaaGreat
open Go.RowKit
theorem sym_one(l:List (Int×Dg))(A:Option Addr)(n c a m b:Nat)(w:World)(hn:l.length=n)(hR:bW 6 iq w w.heap.size A l)(hS:xL l)(h1:m=a+1)(gQ:a<m)(hmb:m<b)(hb:b<=n)(hm:n<=1000000):
 Calls Tryz.prog 203 #[.slice A n c,.int .i64 (a:Int),.int .i64 (m:Int),.int .i64 (b:Int),.func (.func 81) #[] #[]] w fun e w'=>e= .returned (.tuple #[])/\Below w.heap.size w w':=by
 have HR:=kH hR;have HS:=kH hS;have HN:=kH hn;clear hR hS hn;have H1:=kH h1;have hw1:IntKind.i64.wrap ((m:Int) - (a:Int))=(m:Int) - (a:Int):=IntWalk.i64_in _ (by omega);have hc1:((m:Int) - (a:Int)==1)=true:=by simp;omega
 have hw2:IntKind.i64.wrap ((m:Int) - 1)=(m:Int) - 1:=IntWalk.i64_in _ (by omega);have hge:¬((a:Int)<(m:Int) - 1):=by omega
 clear h1;go_enter Tryz.func203,Tryz.ntmps203
 go_wp2_with fail
 go_loopg [10,11] (b - m) (fun gk s10 s11 wr=> ∃j:Nat,s10= .int .i64 (m:Int)/\s11= .int .i64 (j:Int)/\m<=j/\j<=b/\gk=j - m/\Hid (Below w.heap.size w wr))
 case atStart=>exact⟨b,rfl,rfl,by omega,aaD _,rfl,kH (Below.refl _ _)⟩
 case round=>
  obtain⟨j,rfl,rfl,hmj,hjb,hgj,HB⟩:=hrel;by_cases hlt:m<j
  ·have hlt':(m:Int)<(j:Int):=by omega
   obtain⟨h,hh⟩:∃h:Nat,h=(m+j) / 2:=⟨_,rfl⟩
   have hdiv:((m:Int)+(j:Int)) / 2=(h:Int):=by omega
   have hhm:m<=h:=by omega
   have hhj:h<j:=by omega
   have hs1:IntKind.i64.wrap ((m:Int)+(j:Int))=(m:Int)+(j:Int):=IntWalk.i64_in _ (by omega);clear hh;obtain⟨p,hp⟩:∃p,l[h]? =some p:=⟨_,aaH (by rw[HN.out];omega)⟩
   obtain⟨q,hq⟩:∃q,l[a]? =some q:=⟨_,aaH (by rw[HN.out];omega)⟩
   have hcmp:=HS.out.cmp hq hp (by omega);have hRr:bW 6 iq wr wr.heap.size A l:=HR.out.later HB.out;obtain⟨bb,off,hA,hbl,hcs⟩:=zJ hRr hp hq;subst hA;obtain⟨p1,p2,p3,p4,p5,hpe⟩:∃p1 p2 p3 p4 p5,p=(p1,(⟨p2,p3,p4,p5⟩:Dg)):=⟨_,_,_,_,_,rfl⟩
   obtain⟨q1,q2,q3,q4,q5,hqe⟩:∃q1 q2 q3 q4 q5,q=(q1,(⟨q2,q3,q4,q5⟩:Dg)):=⟨_,_,_,_,_,rfl⟩
   subst hpe hqe;have hcall:=fun w'=>Cj p1 p2 p3 p4 q1 q2 q3 q4 p5 q5 (.slice none 0 0) (.slice none 0 0) w'
   rw[show Ad p1 q1=1 from hcmp]at hcall;have HC:=kH hcall;have Lt:=kH hcs;have hhn:h<n:=by omega
   have han:a<n:=by omega
   clear hcall hcs hcmp hp hq hRr;go_wp2_with fail
   go_region_held3 (fun w'=>w'.cell? ⟨bb,off+h*6,none⟩=some (.int .i64 p1)/\w'.cell? ⟨bb,off+h*6+1,none⟩=some (.int .i64 p2)/\w'.cell? ⟨bb,off+h*6+2,none⟩=some (.int .i64 p3)/\w'.cell? ⟨bb,off+h*6+3,none⟩=some (.int .i64 p4)/\w'.cell? ⟨bb,off+h*6+4,none⟩=some (.string p5)/\w'.cell? ⟨bb,off+h*6+5,none⟩=some (.slice none 0 0)/\w'.cell? ⟨bb,off+a*6,none⟩=some (.int .i64 q1)/\w'.cell? ⟨bb,off+a*6+1,none⟩=some (.int .i64 q2)/\w'.cell? ⟨bb,off+a*6+2,none⟩=some (.int .i64 q3)/\w'.cell? ⟨bb,off+a*6+3,none⟩=some (.int .i64 q4)/\w'.cell? ⟨bb,off+a*6+4,none⟩=some (.string q5)/\w'.cell? ⟨bb,off+a*6+5,none⟩=some (.slice none 0 0)) (exact Lt.out _ (by first|assumption|exact(Below.refl _ _).drew)) ((go_at_call 81;refine(HC.out _).mono ?_;rintro e5 w5 ⟨rfl,hb5⟩;have hbr:Below wr.heap.size wr w5:=((Below.refl wr.heap.size wr).drew).trans hb5))
   have iQ:Hid (Below w.heap.size w w5):=kH (HB.out.trans (hbr.mono HB.out.size));clear hbr hb5;go_wp2_with fail
   go_roundg (h - m)
   case measure=>omega
   case rel=>exact⟨h,rfl,rfl,hhm,by omega,rfl,iQ⟩
  ·have hjm:j=m:=by omega
   subst hjm;have hnl:¬((j:Int)<(j:Int)):=by omega
   go_wp2_with fail
   refine wp_loop_rounds 1 ?_;rw[rounds_succ];go_wp2_with fail
   try simp only[Exit.inBlock,Exit.then]
   refine bodyPost_ret (results_none rfl _ _ _) rfl ?_;exact⟨rfl,HB.out⟩
theorem sym_two(l:List (Int×Dg))(A:Option Addr)(n c a m b:Nat)(w:World)(hn:l.length=n)(hR:bW 6 iq w w.heap.size A l)(hS:xL l)(h1:m≠a+1)(h2:b=m+1)(gQ:a<m)(hmb:m<b)(hb:b<=n)(hm:n<=1000000):
 Calls Tryz.prog 203 #[.slice A n c,.int .i64 (a:Int),.int .i64 (m:Int),.int .i64 (b:Int),.func (.func 81) #[] #[]] w fun e w'=>e= .returned (.tuple #[])/\Below w.heap.size w w':=by
 have HR:=kH hR;have HS:=kH hS;have HN:=kH hn;clear hR hS hn;have H2:=kH (And.intro h1 h2);have hw1:IntKind.i64.wrap ((m:Int) - (a:Int))=(m:Int) - (a:Int):=IntWalk.i64_in _ (by omega);have hc1:((m:Int) - (a:Int)==1)=false:=by simp;omega
 have hw3:IntKind.i64.wrap ((b:Int) - (m:Int))=(b:Int) - (m:Int):=IntWalk.i64_in _ (by omega);have hc3:((b:Int) - (m:Int)==1)=true:=by simp;omega
 clear h1 h2;go_enter Tryz.func203,Tryz.ntmps203
 go_wp2_with fail
 go_loopg [14,15] (m - a) (fun gk s14 s15 wr=> ∃i:Nat,s14= .int .i64 (i:Int)/\s15= .int .i64 (m:Int)/\a<=i/\i<=m/\gk=m - i/\Hid (Below w.heap.size w wr))
 case atStart=>exact⟨a,rfl,rfl,aaD _,by omega,rfl,kH (Below.refl _ _)⟩
 case round=>
  obtain⟨i,rfl,rfl,hai,him,hgi,HB⟩:=hrel;by_cases hlt:i<m
  ·have hlt':(i:Int)<(m:Int):=by omega
   obtain⟨h,hh⟩:∃h:Nat,h=(i+m) / 2:=⟨_,rfl⟩
   have hdiv:((i:Int)+(m:Int)) / 2=(h:Int):=by omega
   have hhm:i<=h:=by omega
   have hhj:h<m:=by omega
   have hs1:IntKind.i64.wrap ((i:Int)+(m:Int))=(i:Int)+(m:Int):=IntWalk.i64_in _ (by omega);have hs2:IntKind.i64.wrap ((h:Int)+1)=(h:Int)+1:=IntWalk.i64_in _ (by omega);clear hh;obtain⟨p,hp⟩:∃p,l[m]? =some p:=⟨_,aaH (by rw[HN.out];omega)⟩
   obtain⟨q,hq⟩:∃q,l[h]? =some q:=⟨_,aaH (by rw[HN.out];omega)⟩
   have hcmp:=HS.out.cmp hq hp (by omega);have hRr:bW 6 iq wr wr.heap.size A l:=HR.out.later HB.out;obtain⟨bb,off,hA,hbl,hcs⟩:=zJ hRr hp hq;subst hA;obtain⟨p1,p2,p3,p4,p5,hpe⟩:∃p1 p2 p3 p4 p5,p=(p1,(⟨p2,p3,p4,p5⟩:Dg)):=⟨_,_,_,_,_,rfl⟩
   obtain⟨q1,q2,q3,q4,q5,hqe⟩:∃q1 q2 q3 q4 q5,q=(q1,(⟨q2,q3,q4,q5⟩:Dg)):=⟨_,_,_,_,_,rfl⟩
   subst hpe hqe;have hcall:=fun w'=>Cj p1 p2 p3 p4 q1 q2 q3 q4 p5 q5 (.slice none 0 0) (.slice none 0 0) w'
   rw[show Ad p1 q1=1 from hcmp]at hcall;have HC:=kH hcall;have Lt:=kH hcs;have hhn:h<n:=by omega
   have han:m<n:=by omega
   clear hcall hcs hcmp hp hq hRr;go_wp2_with fail
   go_region_held3 (fun w'=>w'.cell? ⟨bb,off+m*6,none⟩=some (.int .i64 p1)/\w'.cell? ⟨bb,off+m*6+1,none⟩=some (.int .i64 p2)/\w'.cell? ⟨bb,off+m*6+2,none⟩=some (.int .i64 p3)/\w'.cell? ⟨bb,off+m*6+3,none⟩=some (.int .i64 p4)/\w'.cell? ⟨bb,off+m*6+4,none⟩=some (.string p5)/\w'.cell? ⟨bb,off+m*6+5,none⟩=some (.slice none 0 0)/\w'.cell? ⟨bb,off+h*6,none⟩=some (.int .i64 q1)/\w'.cell? ⟨bb,off+h*6+1,none⟩=some (.int .i64 q2)/\w'.cell? ⟨bb,off+h*6+2,none⟩=some (.int .i64 q3)/\w'.cell? ⟨bb,off+h*6+3,none⟩=some (.int .i64 q4)/\w'.cell? ⟨bb,off+h*6+4,none⟩=some (.string q5)/\w'.cell? ⟨bb,off+h*6+5,none⟩=some (.slice none 0 0)) (exact Lt.out _ (by first|assumption|exact(Below.refl _ _).drew)) ((go_at_call 81;refine(HC.out _).mono ?_;rintro e5 w5 ⟨rfl,hb5⟩;have hbr:Below wr.heap.size wr w5:=((Below.refl wr.heap.size wr).drew).trans hb5))
   have iQ:Hid (Below w.heap.size w w5):=kH (HB.out.trans (hbr.mono HB.out.size));clear hbr hb5;go_wp2_with fail
   go_roundg (m - (h+1))
   case measure=>omega
   case rel=>exact⟨h+1,by simp,rfl,by omega,by omega,rfl,iQ⟩
  ·have hjm:i=m:=by omega
   subst hjm;have hnl:¬((i:Int)<(i:Int)):=by omega
   go_wp2_with fail
   refine wp_loop_rounds 1 ?_;rw[rounds_succ];go_wp2_with fail
   try simp only[Exit.inBlock,Exit.then]
   refine bodyPost_ret (results_none rfl _ _ _) rfl ?_;exact⟨rfl,HB.out⟩
theorem sym_up(l:List (Int×Dg))(A:Option Addr)(n c a m b:Nat)(w:World)(hn:l.length=n)(hR:bW 6 iq w w.heap.size A l)(hS:xL l)(h1:m≠a+1)(h2:b≠m+1)(mid:Nat)(hmd:mid=(a+b) / 2)(h3:mid<m)(hrec:∀w,bW 6 iq w w.heap.size A l->Calls Tryz.prog 203 #[.slice A n c,.int .i64 (mid:Int),.int .i64 (m:Int),.int .i64 (b:Int),.func (.func 81) #[] #[]] w fun e w'=>e= .returned (.tuple #[])/\Below w.heap.size w w')(gQ:a<m)(hmb:m<b)(hb:b<=n)(hm:n<=1000000):
 Calls Tryz.prog 203 #[.slice A n c,.int .i64 (a:Int),.int .i64 (m:Int),.int .i64 (b:Int),.func (.func 81) #[] #[]] w fun e w'=>e= .returned (.tuple #[])/\Below w.heap.size w w':=by
 have HR:=kH hR;have HS:=kH hS;have HN:=kH hn;clear hR hS hn;have aam:=kH hrec;have TL:=kH (And.intro h1 (And.intro h2 h3));have hw1:IntKind.i64.wrap ((m:Int) - (a:Int))=(m:Int) - (a:Int):=IntWalk.i64_in _ (by omega);have hc1:((m:Int) - (a:Int)==1)=false:=by simp;omega
 have hw3:IntKind.i64.wrap ((b:Int) - (m:Int))=(b:Int) - (m:Int):=IntWalk.i64_in _ (by omega);have hc3:((b:Int) - (m:Int)==1)=false:=by simp;omega
 have hw4:IntKind.i64.wrap ((a:Int)+(b:Int))=(a:Int)+(b:Int):=IntWalk.i64_in _ (by omega);have hmid:((a:Int)+(b:Int)) / 2=(mid:Int):=by omega
 obtain⟨nn,hnn⟩:∃nn:Nat,nn=mid+m:=⟨_,rfl⟩
 have mP:IntKind.i64.wrap ((mid:Int)+(m:Int))=(nn:Int):=by rw[hnn,IntWalk.i64_in _ (by omega)];omega
 obtain⟨pp,Xt⟩:∃pp:Nat,pp+1=nn:=⟨nn - 1,by omega⟩
 have hpv:IntKind.i64.wrap ((nn:Int) - 1)=(pp:Int):=by rw[IntWalk.i64_in _ (by omega)];omega
 obtain⟨s0,hs0⟩:∃s0:Nat,s0+b=nn:=⟨nn - b,by omega⟩
 have hsv:IntKind.i64.wrap ((nn:Int) - (b:Int))=(s0:Int):=by rw[IntWalk.i64_in _ (by omega)];omega
 have hev:IntKind.i64.wrap ((nn:Int) - (mid:Int))=(m:Int):=by rw[IntWalk.i64_in _ (by omega)];omega
 have hgt:(mid:Int)<(m:Int):=by omega
 have hmb':(m:Int)<(b:Int):=by omega
 have hn1:¬((m:Int)<(m:Int)):=by omega
 have hn2:¬((mid:Int)<(mid:Int)):=by omega
 have HF:Hid (mid=(a+b) / 2/\nn=mid+m/\pp+1=nn/\s0+b=nn):=kH ⟨hmd,hnn,Xt,hs0⟩;clear hmd hnn Xt hrec h1 h2 hs0;go_enter Tryz.func203,Tryz.ntmps203
 go_wp2_with fail
 go_loopg [20,21] (mid - s0) (fun gk s20 WG wr=> ∃i:Nat,s20= .int .i64 (i:Int)/\WG= .int .i64 (mid:Int)/\s0<=i/\i<=mid/\gk=mid - i/\Hid (Below w.heap.size w wr))
 case atStart=>exact⟨s0,rfl,rfl,aaD _,by have:=HF.out;omega,rfl,kH (Below.refl _ _)⟩
 case round=>
  obtain⟨i,rfl,rfl,hai,him,hgi,HB⟩:=hrel;by_cases hlt:i<mid
  ·have hlt':(i:Int)<(mid:Int):=by omega
   obtain⟨h,hh⟩:∃h:Nat,h=(i+mid) / 2:=⟨_,rfl⟩
   have hdiv:((i:Int)+(mid:Int)) / 2=(h:Int):=by omega
   have hhm:i<=h:=by omega
   have hhj:h<mid:=by omega
   have hs1:IntKind.i64.wrap ((i:Int)+(mid:Int))=(i:Int)+(mid:Int):=IntWalk.i64_in _ (by have:=HF.out;omega);have hs2:IntKind.i64.wrap ((h:Int)+1)=(h:Int)+1:=IntWalk.i64_in _ (by have:=HF.out;omega);obtain⟨g,hg⟩:∃g:Nat,g+h=pp:=⟨pp - h,by have:=HF.out;omega⟩
   have hgv:IntKind.i64.wrap ((pp:Int) - (h:Int))=(g:Int):=by rw[IntWalk.i64_in _ (by have:=HF.out;omega)];omega
   have hgh:h<g:=by have:=HF.out;omega
   have hgn:g<n:=by have:=HF.out;omega
   clear hh hg;obtain⟨p,hp⟩:∃p,l[g]? =some p:=⟨_,aaH (by rw[HN.out];omega)⟩
   obtain⟨q,hq⟩:∃q,l[h]? =some q:=⟨_,aaH (by rw[HN.out];omega)⟩
   have hcmp:=HS.out.cmp hq hp (by omega);have hRr:bW 6 iq wr wr.heap.size A l:=HR.out.later HB.out;obtain⟨bb,off,hA,hbl,hcs⟩:=zJ hRr hp hq;subst hA;obtain⟨p1,p2,p3,p4,p5,hpe⟩:∃p1 p2 p3 p4 p5,p=(p1,(⟨p2,p3,p4,p5⟩:Dg)):=⟨_,_,_,_,_,rfl⟩
   obtain⟨q1,q2,q3,q4,q5,hqe⟩:∃q1 q2 q3 q4 q5,q=(q1,(⟨q2,q3,q4,q5⟩:Dg)):=⟨_,_,_,_,_,rfl⟩
   subst hpe hqe;have hcall:=fun w'=>Cj p1 p2 p3 p4 q1 q2 q3 q4 p5 q5 (.slice none 0 0) (.slice none 0 0) w'
   rw[show Ad p1 q1=1 from hcmp]at hcall;have HC:=kH hcall;have Lt:=kH hcs;have hhn:h<n:=by omega
   clear hcall hcs hcmp hp hq hRr;go_wp2_with fail
   go_region_held3 (fun w'=>w'.cell? ⟨bb,off+g*6,none⟩=some (.int .i64 p1)/\w'.cell? ⟨bb,off+g*6+1,none⟩=some (.int .i64 p2)/\w'.cell? ⟨bb,off+g*6+2,none⟩=some (.int .i64 p3)/\w'.cell? ⟨bb,off+g*6+3,none⟩=some (.int .i64 p4)/\w'.cell? ⟨bb,off+g*6+4,none⟩=some (.string p5)/\w'.cell? ⟨bb,off+g*6+5,none⟩=some (.slice none 0 0)/\w'.cell? ⟨bb,off+h*6,none⟩=some (.int .i64 q1)/\w'.cell? ⟨bb,off+h*6+1,none⟩=some (.int .i64 q2)/\w'.cell? ⟨bb,off+h*6+2,none⟩=some (.int .i64 q3)/\w'.cell? ⟨bb,off+h*6+3,none⟩=some (.int .i64 q4)/\w'.cell? ⟨bb,off+h*6+4,none⟩=some (.string q5)/\w'.cell? ⟨bb,off+h*6+5,none⟩=some (.slice none 0 0)) (exact Lt.out _ (by first|assumption|exact(Below.refl _ _).drew)) ((go_at_call 81;refine(HC.out _).mono ?_;rintro e5 w5 ⟨rfl,hb5⟩;have hbr:Below wr.heap.size wr w5:=((Below.refl wr.heap.size wr).drew).trans hb5))
   have iQ:Hid (Below w.heap.size w w5):=kH (HB.out.trans (hbr.mono HB.out.size));clear hbr hb5;go_wp2_with fail
   go_roundg (mid - (h+1))
   case measure=>omega
   case rel=>exact⟨h+1,by simp,rfl,by omega,by omega,rfl,iQ⟩
  ·have hjm:i=mid:=by omega
   subst hjm;have hcall:=aam.out wr (HR.out.later HB.out);have HC:=kH hcall;clear hcall;go_wp2_with fail
   refine HC.out.mono ?_;rintro e6 w6 ⟨rfl,hb6⟩;have p8:Hid (Below w.heap.size w w6):=kH (HB.out.trans (hb6.mono HB.out.size));clear hb6;go_wp2_with fail
   go_end0
   exact⟨rfl,p8.out⟩
theorem YM(l:List (Int×Dg))(A:Option Addr)(n c a m b:Nat)(w:World)(hn:l.length=n)(hR:bW 6 iq w w.heap.size A l)(hS:xL l)(h1:m≠a+1)(h2:b≠m+1)(mid:Nat)(hmd:mid=(a+b) / 2)(h3:¬mid<m)(hrec:m<mid->∀w,bW 6 iq w w.heap.size A l->Calls Tryz.prog 203 #[.slice A n c,.int .i64 (a:Int),.int .i64 (m:Int),.int .i64 (mid:Int),.func (.func 81) #[] #[]] w fun e w'=>e= .returned (.tuple #[])/\Below w.heap.size w w')(gQ:a<m)(hmb:m<b)(hb:b<=n)(hm:n<=1000000):
 Calls Tryz.prog 203 #[.slice A n c,.int .i64 (a:Int),.int .i64 (m:Int),.int .i64 (b:Int),.func (.func 81) #[] #[]] w fun e w'=>e= .returned (.tuple #[])/\Below w.heap.size w w':=by
 have HR:=kH hR;have HS:=kH hS;have HN:=kH hn;clear hR hS hn;have aam:=kH hrec;have TL:=kH (And.intro h1 (And.intro h2 h3));have hw1:IntKind.i64.wrap ((m:Int) - (a:Int))=(m:Int) - (a:Int):=IntWalk.i64_in _ (by omega);have hc1:((m:Int) - (a:Int)==1)=false:=by simp;omega
 have hw3:IntKind.i64.wrap ((b:Int) - (m:Int))=(b:Int) - (m:Int):=IntWalk.i64_in _ (by omega);have hc3:((b:Int) - (m:Int)==1)=false:=by simp;omega
 have hw4:IntKind.i64.wrap ((a:Int)+(b:Int))=(a:Int)+(b:Int):=IntWalk.i64_in _ (by omega);have hmid:((a:Int)+(b:Int)) / 2=(mid:Int):=by omega
 obtain⟨nn,hnn⟩:∃nn:Nat,nn=mid+m:=⟨_,rfl⟩
 have mP:IntKind.i64.wrap ((mid:Int)+(m:Int))=(nn:Int):=by rw[hnn,IntWalk.i64_in _ (by omega)];omega
 obtain⟨pp,Xt⟩:∃pp:Nat,pp+1=nn:=⟨nn - 1,by omega⟩
 have hpv:IntKind.i64.wrap ((nn:Int) - 1)=(pp:Int):=by rw[IntWalk.i64_in _ (by omega)];omega
 have hev:IntKind.i64.wrap ((nn:Int) - (m:Int))=(mid:Int):=by rw[IntWalk.i64_in _ (by omega)];omega
 have hgt:¬((mid:Int)<(m:Int)):=by omega
 have ham':(a:Int)<(m:Int):=by omega
 have hn1:¬((m:Int)<(m:Int)):=by omega
 have hn2:¬((mid:Int)<(mid:Int)):=by omega
 have HF:Hid (mid=(a+b) / 2/\nn=mid+m/\pp+1=nn):=kH ⟨hmd,hnn,Xt⟩;clear hmd hnn Xt hrec h1 h2;go_enter Tryz.func203,Tryz.ntmps203
 go_wp2_with fail
 go_loopg [20,21] (m - a) (fun gk s20 WG wr=> ∃i:Nat,s20= .int .i64 (i:Int)/\WG= .int .i64 (m:Int)/\a<=i/\i<=m/\gk=m - i/\Hid (Below w.heap.size w wr))
 case atStart=>exact⟨a,rfl,rfl,aaD _,by have:=HF.out;omega,rfl,kH (Below.refl _ _)⟩
 case round=>
  obtain⟨i,rfl,rfl,hai,him,hgi,HB⟩:=hrel;by_cases hlt:i<m
  ·have hlt':(i:Int)<(m:Int):=by omega
   obtain⟨h,hh⟩:∃h:Nat,h=(i+m) / 2:=⟨_,rfl⟩
   have hdiv:((i:Int)+(m:Int)) / 2=(h:Int):=by omega
   have hhm:i<=h:=by omega
   have hhj:h<m:=by omega
   have hs1:IntKind.i64.wrap ((i:Int)+(m:Int))=(i:Int)+(m:Int):=IntWalk.i64_in _ (by have:=HF.out;omega);have hs2:IntKind.i64.wrap ((h:Int)+1)=(h:Int)+1:=IntWalk.i64_in _ (by have:=HF.out;omega);obtain⟨g,hg⟩:∃g:Nat,g+h=pp:=⟨pp - h,by have:=HF.out;omega⟩
   have hgv:IntKind.i64.wrap ((pp:Int) - (h:Int))=(g:Int):=by rw[IntWalk.i64_in _ (by have:=HF.out;omega)];omega
   have hgh:h<g:=by have:=HF.out;omega
   have hgn:g<n:=by have:=HF.out;omega
   clear hh hg;obtain⟨p,hp⟩:∃p,l[g]? =some p:=⟨_,aaH (by rw[HN.out];omega)⟩
   obtain⟨q,hq⟩:∃q,l[h]? =some q:=⟨_,aaH (by rw[HN.out];omega)⟩
   have hcmp:=HS.out.cmp hq hp (by omega);have hRr:bW 6 iq wr wr.heap.size A l:=HR.out.later HB.out;obtain⟨bb,off,hA,hbl,hcs⟩:=zJ hRr hp hq;subst hA;obtain⟨p1,p2,p3,p4,p5,hpe⟩:∃p1 p2 p3 p4 p5,p=(p1,(⟨p2,p3,p4,p5⟩:Dg)):=⟨_,_,_,_,_,rfl⟩
   obtain⟨q1,q2,q3,q4,q5,hqe⟩:∃q1 q2 q3 q4 q5,q=(q1,(⟨q2,q3,q4,q5⟩:Dg)):=⟨_,_,_,_,_,rfl⟩
   subst hpe hqe;have hcall:=fun w'=>Cj p1 p2 p3 p4 q1 q2 q3 q4 p5 q5 (.slice none 0 0) (.slice none 0 0) w'
   rw[show Ad p1 q1=1 from hcmp]at hcall;have HC:=kH hcall;have Lt:=kH hcs;have hhn:h<n:=by omega
   clear hcall hcs hcmp hp hq hRr;go_wp2_with fail
   go_region_held3 (fun w'=>w'.cell? ⟨bb,off+g*6,none⟩=some (.int .i64 p1)/\w'.cell? ⟨bb,off+g*6+1,none⟩=some (.int .i64 p2)/\w'.cell? ⟨bb,off+g*6+2,none⟩=some (.int .i64 p3)/\w'.cell? ⟨bb,off+g*6+3,none⟩=some (.int .i64 p4)/\w'.cell? ⟨bb,off+g*6+4,none⟩=some (.string p5)/\w'.cell? ⟨bb,off+g*6+5,none⟩=some (.slice none 0 0)/\w'.cell? ⟨bb,off+h*6,none⟩=some (.int .i64 q1)/\w'.cell? ⟨bb,off+h*6+1,none⟩=some (.int .i64 q2)/\w'.cell? ⟨bb,off+h*6+2,none⟩=some (.int .i64 q3)/\w'.cell? ⟨bb,off+h*6+3,none⟩=some (.int .i64 q4)/\w'.cell? ⟨bb,off+h*6+4,none⟩=some (.string q5)/\w'.cell? ⟨bb,off+h*6+5,none⟩=some (.slice none 0 0)) (exact Lt.out _ (by first|assumption|exact(Below.refl _ _).drew)) ((go_at_call 81;refine(HC.out _).mono ?_;rintro e5 w5 ⟨rfl,hb5⟩;have hbr:Below wr.heap.size wr w5:=((Below.refl wr.heap.size wr).drew).trans hb5))
   have iQ:Hid (Below w.heap.size w w5):=kH (HB.out.trans (hbr.mono HB.out.size));clear hbr hb5;go_wp2_with fail
   go_roundg (m - (h+1))
   case measure=>omega
   case rel=>exact⟨h+1,by simp,rfl,by omega,by omega,rfl,iQ⟩
  ·have hjm:i=m:=by omega
   subst hjm;by_cases hlm:i<mid
   ·have hlm':(i:Int)<(mid:Int):=by omega
    have hcall:=aam.out hlm wr (HR.out.later HB.out);have HC:=kH hcall;clear hcall;go_wp2_with fail
    refine HC.out.mono ?_;rintro e6 w6 ⟨rfl,hb6⟩;have p8:Hid (Below w.heap.size w w6):=kH (HB.out.trans (hb6.mono HB.out.size));clear hb6;go_wp2_with fail
    go_end0
    exact⟨rfl,p8.out⟩
   ·have hlm':¬((i:Int)<(mid:Int)):=by omega
    go_wp2_with fail
    go_end0
    exact⟨rfl,HB.out⟩
theorem LH(l:List (Int×Dg))(A:Option Addr)(n c:Nat)(hn:l.length=n)(hS:xL l)(hm:n<=1000000):∀(k a m b:Nat),b - a<=k->a<m->m<b->b<=n->∀w:World,bW 6 iq w w.heap.size A l ->
 Calls Tryz.prog 203 #[.slice A n c,.int .i64 (a:Int),.int .i64 (m:Int),.int .i64 (b:Int),.func (.func 81) #[] #[]] w fun e w'=>e= .returned (.tuple #[])/\Below w.heap.size w w'
 | 0,a,m,b,h,h1,h2,_,_,_=>by omega
 | k+1,a,m,b,h,h1,h2,h3,w,hR=>by
  by_cases e1:m=a+1
  ·exact sym_one l A n c a m b w hn hR hS e1 h1 h2 h3 hm
  by_cases e2:b=m+1
  ·exact sym_two l A n c a m b w hn hR hS e1 e2 h1 h2 h3 hm
  by_cases e3:(a+b) / 2<m
  ·exact sym_up l A n c a m b w hn hR hS e1 e2 _ rfl e3 (fun w hR=>LH l A n c hn hS hm k _ m b (by omega) e3 h2 h3 w hR) h1 h2 h3 hm
  ·exact YM l A n c a m b w hn hR hS e1 e2 _ rfl e3 (fun hlt w hR=>LH l A n c hn hS hm k a m _ (by omega) h1 hlt (by omega) w hR) h1 h2 h3 hm
theorem Ub(l:List (Int×Dg))(A:Option Addr)(n c:Nat)(w:World)(hn:l.length=n)(hR:bW 6 iq w w.heap.size A l)(hS:xL l)(hm:n<=1000000):
 Calls Tryz.prog 150 #[.slice A n c,.int .i64 (n:Int),.func (.func 81) #[] #[]] w fun e w'=>e= .returned (.tuple #[])/\Below w.heap.size w w':=by
 have hins:∀(a b:Nat) (w1:World),Below w.heap.size w w1->a<=b->b<=n->Calls Tryz.prog 202 #[.slice A n c,.int .i64 (a:Int),.int .i64 (b:Int),.func (.func 81) #[] #[]] w1 fun e w'=>e= .returned (.tuple #[])/\Below w.heap.size w w':=fun a b w1 hb h1 h2=>
  (ins_any l A n c a b w1 hn (hR.later hb) hS h1 h2 hm).mono fun e w' ⟨h3,h4⟩=>⟨h3,hb.trans (h4.mono hb.size)⟩
 have hsym:∀(a m b:Nat) (w1:World),Below w.heap.size w w1->a<m->m<b->b<=n->Calls Tryz.prog 203 #[.slice A n c,.int .i64 (a:Int),.int .i64 (m:Int),.int .i64 (b:Int),.func (.func 81) #[] #[]] w1 fun e w'=>e= .returned (.tuple #[])/\Below w.heap.size w w':=fun a m b w1 hb h1 h2 h3=>
  (LH l A n c hn hS hm (b - a) a m b (aaD _) h1 h2 h3 w1 (hR.later hb)).mono fun e w' ⟨h3,h4⟩=>⟨h3,hb.trans (h4.mono hb.size)⟩
 have HINS:=kH hins;have HSYM:=kH hsym;clear hins hsym hn hR hS;go_enter Tryz.func150,Tryz.ntmps150
 go_wp2_with fail
 go_loopg [7,8] (n+1) (fun gk s7 s8 wr=> ∃i:Nat,s7= .int .i64 (i:Int)/\s8= .int .i64 ((i:Int)+20)/\i<=n/\gk=n+1 - i/\Hid (Below w.heap.size w wr))
 case atStart=>exact⟨0,rfl,rfl,Nat.zero_le _,rfl,kH (Below.refl _ _)⟩
 case round=>
  obtain⟨i,rfl,rfl,hin,hgi,HB⟩:=hrel;by_cases hle:i+20<=n
  ·have hle':(i:Int)+20<=(n:Int):=by omega
   have hw:IntKind.i64.wrap ((i:Int)+20+20)=(i:Int)+20+20:=IntWalk.i64_in _ (by omega);have hcall:=HINS.out i (i+20) wr HB.out (by omega) hle;rw[show((i+20:Nat):Int)=(i:Int)+20 by omega]at hcall;have HC:=kH hcall;clear hcall;go_wp2_with fail
   refine HC.out.mono ?_;rintro e5 w5 ⟨rfl,hb5⟩;have iQ:=kH hb5;clear hb5;go_wp2_with fail
   go_roundg (n+1 - (i+20))
   case measure=>omega
   case rel=>exact⟨i+20,by simp,by simp,hle,rfl,iQ⟩
  ·have hgt:¬((i:Int)+20<=(n:Int)):=by omega
   have hcall:=HINS.out i n wr HB.out hin (aaD _);have HC:=kH hcall;clear hcall;go_wp2_with fail
   refine HC.out.mono ?_;rintro e5 w5 ⟨rfl,hb5⟩;have iQ:=kH hb5;clear hb5;go_wp2_with fail
   obtain⟨wo,hwo⟩:∃wo:World,wo=w5:=⟨_,rfl⟩
   go_loopg [6] (n+1 - 20) (fun gk s6 wr=> ∃s:Nat,s6= .int .i64 (s:Int)/\20<=s/\s<=n+n+20/\gk=n+1 - s/\Hid (Below w.heap.size w wr))
   case atStart=>exact⟨20,rfl,aaD _,by omega,by omega,iQ⟩
   case round=>
    obtain⟨s,rfl,hs20,hsn,hgs,HBs⟩:=hrel;by_cases hlt:s<n
    ·have hlt':(s:Int)<(n:Int):=by omega
     have hw2:IntKind.i64.wrap (2*(s:Int))=2*(s:Int):=IntWalk.i64_in _ (by omega);have hw3:IntKind.i64.wrap ((s:Int)*2)=(s:Int)*2:=IntWalk.i64_in _ (by omega);go_wp2_with fail
     obtain⟨go,hgo⟩:∃go:Nat,go=gk:=⟨_,rfl⟩
     go_loopg [7,8] (n+1) (fun gk s7 s8 wr=> ∃i:Nat,s7= .int .i64 (i:Int)/\s8= .int .i64 ((i:Int)+2*(s:Int))/\i<=n/\gk=n+1 - i/\Hid (Below w.heap.size w wr))
     case atStart=>exact⟨0,rfl,by simp,Nat.zero_le _,rfl,HBs⟩
     case round=>
      obtain⟨i2,rfl,rfl,hin2,hgi2,HB2⟩:=hrel;have hw5:IntKind.i64.wrap ((i2:Int)+(s:Int))=(i2:Int)+(s:Int):=IntWalk.i64_in _ (by omega);by_cases hle2:i2+2*s<=n
      ·have hle2':(i2:Int)+2*(s:Int)<=(n:Int):=by omega
       have hw6:IntKind.i64.wrap ((i2:Int)+2*(s:Int)+2*(s:Int))=(i2:Int)+2*(s:Int)+2*(s:Int):=IntWalk.i64_in _ (by omega);have hcall:=HSYM.out i2 (i2+s) (i2+2*s) _ HB2.out (by omega) (by omega) hle2;rw[show((i2+s:Nat):Int)=(i2:Int)+(s:Int) by omega,show((i2+2*s:Nat):Int)=(i2:Int)+2*(s:Int) by omega]at hcall;have wW:=kH hcall;clear hcall;go_wp2_with fail
       refine wW.out.mono ?_;rintro e6 w6 ⟨rfl,hb6⟩;have p8:=kH hb6;clear hb6;go_wp2_with fail
       go_roundg (n+1 - (i2+2*s))
       case measure=>omega
       case rel=>exact⟨i2+2*s,by simp,by simp,hle2,rfl,p8⟩
      ·have hgt2:¬((i2:Int)+2*(s:Int)<=(n:Int)):=by omega
       by_cases hm2:i2+s<n
       ·have hm2':(i2:Int)+(s:Int)<(n:Int):=by omega
        have hcall:=HSYM.out i2 (i2+s) n _ HB2.out (by omega) (by omega) (aaD _);rw[show((i2+s:Nat):Int)=(i2:Int)+(s:Int) by omega]at hcall;have wW:=kH hcall;clear hcall;go_wp2_with fail
        refine wW.out.mono ?_;rintro e6 w6 ⟨rfl,hb6⟩;have p8:=kH hb6;clear hb6;go_wp2_with fail
        go_roundg (n+1 - 2*s)
        case measure=>omega
        case rel=>exact⟨2*s,by simp;omega,by omega,by omega,rfl,p8⟩
       ·have hm2':¬((i2:Int)+(s:Int)<(n:Int)):=by omega
        go_wp2_with fail
        go_roundg (n+1 - 2*s)
        case measure=>omega
        case rel=>exact⟨2*s,by simp;omega,by omega,by omega,rfl,HB2⟩
    ·have hge:¬((s:Int)<(n:Int)):=by omega
     go_wp2_with fail
     go_end0
     exact⟨rfl,HBs.out⟩
theorem LJ(l:List (Int×Dg))(A:Option Addr)(n c:Nat)(w:World)(hn:l.length=n)(hR:bW 6 iq w w.heap.size A l)(hS:xL l)(hm:n<=1000000):
 Calls Tryz.prog 80 #[.slice A n c,.func (.func 81) #[] #[]] w fun e w'=>e= .returned (.tuple #[])/\Below w.heap.size w w':=by
 have hc:=Ub l A n c w hn hR hS hm;have HC:=kH hc;clear hc hn hR hS;go_enter Tryz.func80,Tryz.ntmps80
 go_wp2_with fail
 refine HC.out.mono ?_;rintro e w2 ⟨rfl,hb⟩;have HB:=kH hb;clear hb HC;go_wp2_with fail
 go_end0
 exact⟨rfl,HB.out⟩
theorem aS.pushU{E:RC}{G:aW}{r:RS}{V:RV}{w w3:World}(h:aS E G r V w)(hv:r.bQ=[])(hvv:V.vals=[])(x:Int){A3:Option Addr}{c3:Nat}
 (ho:aL w3 E.base 3 1 (.slice A3 (r.uses.length+1) c3) (r.uses.length+1) (iE r.uses++[.int .i64 x])) (hg:w.grownBy w3 (Value.slice E.uA r.uses.length E.uc).ownBlock):
 aS { E with uA:=A3,uc:=c3 } G { r with uses:=r.uses++[x] } V (w3.setCell ⟨E.rp,4,none⟩ (.slice A3 (r.uses.length+1) c3))/\az (fun g=>E.base<=g) w (w3.setCell ⟨E.rp,4,none⟩ (.slice A3 (r.uses.length+1) c3)):=by
 have hs:az (fun g=>g=E.rp\/(Value.slice E.uA r.uses.length E.uc).ownBlock=some g) w (w3.setCell ⟨E.rp,4,none⟩ (.slice A3 (r.uses.length+1) c3)):=
  ((az.refl _ w).grown hg (fun g hg=>.inl (.inr hg))).setCell (.inl (.inl rfl)) _
 have hpr:(Value.slice E.uA r.uses.length E.uc).ownBlock≠some E.rp:=h.us.eu h.blk (by decide);have hb3:ai w3 E.rp 75 _:=h.blk.grown hg (Ne.symm hpr)
 have gQ:∀{K:Type} [DecidableEq K] {KK:om K}{q:Nat}{m:List (K×Value)},aZ KK w q m->aZ KK (w3.setCell ⟨E.rp,4,none⟩ (.slice A3 (r.uses.length+1) c3)) q m:=fun ha=>ha.since hs (fun h1=>by
  rcases h1 with h1|h1
  ·exact ha.qP h.blk h1
  ·exact ha.jf h.us h1)
 have how:∀{e size v n xs},aL w E.base e size v n xs->e≠75->e≠3->aL (w3.setCell ⟨E.rp,4,none⟩ (.slice A3 (r.uses.length+1) c3)) E.base e size v n xs:=fun ha h1 h2=>ha.since hs (fun g hg h3=>by
  rcases h3 with h3|h3
  ·exact ha.eu h.blk h1 (by rw[hg,h3])
  ·exact ha.apart h.us h2 g hg h3)
 have hl:(r.uses++[x]).length=r.uses.length+1:=by simp
 have S9:iE (r.uses++[x])=iE r.uses++[.int .i64 x]:=by simp[iE]
 refine⟨⟨?_,gQ h.gl,gQ h.fl,gQ h.kn,gQ h.vi,?_,how h.ds (by decide) (by decide),?_,how h.ps (by decide) (by decide),h.low,h.apart⟩,?_⟩
 ·have:=hb3.fU 4 (.slice A3 (r.uses.length+1) c3)
  simp only[hl];simpa using this
 ·simp only[hv,hvv]
  rfl
 ·have CW:(Value.slice A3 (r.uses.length+1) c3).ownBlock≠some E.rp:=ho.eu hb3 (by decide)
  have:=ho.setCell (p:=⟨E.rp,4,none⟩) CW (.slice A3 (r.uses.length+1) c3);simp only[hl,S9];exact this
 ·refine az.mono hs fun g h1=>?_
  rcases h1 with rfl|h1
  ·exact h.low.1
  ·exact(h.us.lt g h1).1
theorem aS.collected{E:RC}{G G':aW}{r:RS}{V:RV}{w w':World}(h:aS E G r V w)(hs:az (fun x=>x=E.g\/x=E.f\/x=E.k) w w')(hc:CG E.g E.f E.k G' w'):aS E G' r V w' where
 blk:=h.blk.since hs (fun h1=>by
  rcases h1 with h1|h1|h1
  ·exact h.gl.qP h.blk h1.symm
  ·exact h.fl.qP h.blk h1.symm
  ·exact h.kn.qP h.blk h1.symm)
 gl:=hc.gl
 fl:=hc.fl
 kn:=hc.kn
 vi:=h.vi.since hs (fun h1=>by have:=h.apart;omega)
 bQ:=eX.of_block h.bQ fun g cur hg _=>hs.block g (aaG.1 hg).1 fun h1=>by
  have hm:∃es ck,w.heap[g]? =some (.map es ck):=by
   rcases h1 with rfl|rfl|rfl
   ·exact h.gl.isMap
   ·exact h.fl.isMap
   ·exact h.kn.isMap
  obtain⟨es,ck,hm⟩:=hm;rw[hm]at hg;cases hg
 ds:=h.ds.since hs (fun g hg h1=>by
  rcases h1 with rfl|rfl|rfl
  ·exact h.gl.jf h.ds hg
  ·exact h.fl.jf h.ds hg
  ·exact h.kn.jf h.ds hg)
 us:=h.us.since hs (fun g hg h1=>by
  rcases h1 with rfl|rfl|rfl
  ·exact h.gl.jf h.us hg
  ·exact h.fl.jf h.us hg
  ·exact h.kn.jf h.us hg)
 ps:=h.ps.since hs (fun g hg h1=>by
  rcases h1 with rfl|rfl|rfl
  ·exact h.gl.jf h.ps hg
  ·exact h.fl.jf h.ps hg
  ·exact h.kn.jf h.ps hg)
 low:=h.low
 apart:=h.apart
theorem eX.since{w w':World}{base:Nat}{ub:Option Nat}{S:Nat->Prop}(hs:az S w w'):∀{l:List (Int×List Int)}{vals:List (Int×Value)},eX w base ub l vals->(∀y∈vals,∀g,y.2.ownBlock=some g->¬S g)->eX w' base ub l vals
 | [],_,h,_=>h
 | x::_,_,⟨v,vs,h1,h2,h3,h4⟩,hk=>by
  subst h1;exact⟨v,vs,rfl,h2.since hs (fun g hg=>hk (x.1,v) (by simp) g hg),h3,eX.since hs h4 fun y hy=>hk y (by simp[hy])⟩
theorem eX.split{w:World}{base:Nat}{ub:Option Nat}{k:Int}{v:Value}{v2:List (Int×Value)}:∀(v1:List (Int×Value)) {l:List (Int×List Int)},eX w base ub l (v1++(k,v)::v2) ->
 ∃l1 lx l2,l=l1++(k,lx)::l2/\aL w base 3 1 v lx.length (iE lx)/\(∀g,v.ownBlock=some g->ub≠some g) /\
  ∀Dz w',aL w' base 3 1 v Dz.length (iE Dz)->az (fun g=>v.ownBlock=some g) w w'->eX w' base ub (l1++(k,Dz)::l2) (v1++(k,v)::v2)
 | [],l,h=>by
  cases l with
  | nil=>
   have:([]:List (Int×Value))++(k,v)::v2=[]:=h
   cases this
  | cons x l=>
   obtain⟨v',vs,h1,h2,h3,h4⟩:=h;simp only[List.nil_append,List.cons.injEq,Prod.mk.injEq]at h1;obtain⟨⟨e1,rfl⟩,rfl⟩:=h1;obtain⟨k',lx⟩:=x;have e2:k=k':=e1;subst e2;exact⟨[],lx,l,rfl,h2,fun g hg=>(h3 g hg).1,fun Dz w' ho hs=>⟨v,v2,rfl,ho,h3,eX.since hs h4 fun y hy g hg hv=>(h3 g hv).2 y hy hg⟩⟩
 | y::v1,l,h=>by
  cases l with
  | nil=>
   have:(y::v1)++(k,v)::v2=[]:=h
   cases this
  | cons x l=>
   obtain⟨v',vs,h1,h2,h3,h4⟩:=h;simp only[List.cons_append,List.cons.injEq]at h1;obtain⟨rfl,rfl⟩:=h1;obtain⟨l1,lx,l2,rfl,h5,h6,h7⟩:=eX.split v1 h4;exact⟨x::l1,lx,l2,rfl,h5,h6,fun Dz w' ho hs=>⟨v',v1++(k,v)::v2,rfl,h2.since hs (fun g hg hv=>(h3 g hg).2 (k,v) (by simp) hv),h3,h7 Dz w' ho hs⟩⟩
theorem aS.setVis{E:RC}{G:aW}{r:RS}{V:RV}{w:World}(h:aS E G r V w){v1 v2:List (Int×Value)}{k:Int}{v:Value}(nO:V.vals=v1++(k,v)::v2):
 ∃l1 lx l2,r.bQ=l1++(k,lx)::l2/\aL w E.base 3 1 v lx.length (iE lx) /\
  ∀Dz w',aL w' E.base 3 1 v Dz.length (iE Dz)->az (fun g=>v.ownBlock=some g) w w'->aS E G { r with bQ:=l1++(k,Dz)::l2 } V w':=by
 have hv:=h.bQ;rw[nO]at hv;obtain⟨l1,lx,l2,e,h5,h6,h7⟩:=eX.split v1 hv;refine⟨l1,lx,l2,e,h5,fun Dz w' ho hs=>?_⟩;have gQ:∀{K:Type} [DecidableEq K] {KK:om K}{q:Nat}{m:List (K×Value)},aZ KK w q m->aZ KK w' q m:=fun ha=>ha.since hs (fun h1=>ha.jf h5 h1)
 refine⟨h.blk.since hs (fun h1=>h5.eu h.blk (by decide) h1),gQ h.gl,gQ h.fl,gQ h.kn,gQ h.vi,?_,h.ds.since hs (fun g hg h3=>h.ds.apart h5 (by decide) g hg h3),h.us.since hs (fun g hg h3=>h6 g h3 hg),h.ps.since hs (fun g hg h3=>h.ps.apart h5 (by decide) g hg h3),h.low,h.apart⟩;rw[nO];exact h7 Dz w' ho hs
theorem aS.sinceO{E:RC}{G:aW}{r:RS}{V:RV}{w w':World}{S:Nat->Prop}(h:aS E G r V w)(hs:az S w w')(hS:∀g cs t fr,w.heap[g]? =some (.cells cs t fr)->¬S g)(hM:∀g es ck,w.heap[g]? =some (.map es ck)->¬S g):aS E G r V w':=by
 have gQ:∀{K:Type} [DecidableEq K] {KK:om K}{q:Nat}{m:List (K×Value)},aZ KK w q m->aZ KK w' q m:=fun ha=>ha.since hs (fun h1=>by
  obtain⟨es,ck,ho⟩:=ha.isMap
  exact hM _ _ _ ho h1)
 have how:∀{e size v n xs},aL w E.base e size v n xs->aL w' E.base e size v n xs:=fun ha=>ha.since hs (fun g hg h1=>by
  obtain⟨cur,ho⟩:=ha.obj g hg
  exact hS _ _ _ _ ho h1)
 exact⟨h.blk.since hs (hS _ _ _ _ h.blk),gQ h.gl,gQ h.fl,gQ h.kn,gQ h.vi,eX.of_block h.bQ fun g cur hg _=>hs.block g (aaG.1 hg).1 (hS _ _ _ _ hg),how h.ds,how h.us,how h.ps,h.low,h.apart⟩
theorem mD.obj{K:Type}[DecidableEq K]{KK:om K}{w:World}{r b:Nat}{m:List (K×Value)}{left:List (Value×Value)}(h:mD KK w r b m left):∃a c d e,w.heap[b]? =some (.mapIter a c d e):=by
 obtain⟨es,clock,seen,c0,-,-,-,-,h5,-⟩:=h;exact⟨_,_,_,_,h5⟩
theorem Ox{α:Type}{F:α->α}{l:List α}{i:Nat}{u:α}(h:l[i]? =some u):((l.take i).map F++l.drop i)[i]? =some u/\((l.take i).map F++l.drop i).set i (F u)=(l.take (i+1)).map F++l.drop (i+1):=by
 obtain⟨hlt,he⟩:=aaJ.1 h;have hl:((l.take i).map F).length=i:=by simp;omega
 have hd:l.drop i=u::l.drop (i+1):=by rw[List.drop_eq_getElem_cons hlt,he]
 constructor
 ·rw[aaN (by omega),hl,Nat.sub_self,hd]
  rfl
 ·rw[List.set_append_right _ _ (by omega),hl,Nat.sub_self,hd,xZ h]
  simp
theorem uT{K V:Type}[DecidableEq K](l:List (K×V))(k:K)(v:V)(hn:(l.map (·.1)).Nodup):((cO l k v).map (·.1)).Nodup:=by
 by_cases hk:k∈l.map (·.1)
 ·have:(cO l k v).map (·.1)=l.map (·.1):=by
   clear hn
   induction l with
   | nil=>cases hk
   | cons x l ih=>
    rw[cO];by_cases h:k=x.1
    ·rw[if_pos h,List.map_cons,List.map_cons,h]
    ·rw[if_neg h,List.map_cons,List.map_cons]
     rw[List.map_cons,List.mem_cons]at hk;rw[ih (hk.resolve_left h)]
  rw[this];exact hn
 ·have:cO l k v=l++[(k,v)]:=Et v hk
  rw[this,List.map_append,List.nodup_append];refine⟨hn,by simp,fun a ha b hb=>?_⟩;simp at hb;subst hb;exact fun e=>hk (e ▸ ha)
theorem U6:AY fun a b=>(a.bQ.map (·.1)).Nodup->(b.bQ.map (·.1)).Nodup where
 refl:=fun _ h=>h
 trans:=fun h k q=>k (h q)
 none_:=fun r i v h=>by
  unfold aC;cases i
  ·exact h
  ·exact uT _ _ _ h
 say:=fun r i v c t h=>by
  unfold oI aC;cases i
  ·exact h
  ·exact uT _ _ _ h
 decl:=fun r i v c t h=>by
  unfold iR aC;cases i
  ·exact h
  ·exact uT _ _ _ h
 use:=fun r i v k h=>by
  unfold aC;cases i
  ·exact h
  ·exact uT _ _ _ h
 owner:=fun r o h=>h
theorem TS(G:aW)(t:aa)(i:Bool)(s:aK)(r:RS)(h:(r.bQ.map (·.1)).Nodup):((aF G i t s r).1.bQ.map (·.1)).Nodup:=Au U6 G t i s r h
def zB(F:Int->Int)(f:Int->Bool)(l:List (Int×List Int)):List (Int×List Int):=l.map fun x=>(x.1,if f x.1 then x.2 else x.2.map F)
theorem Wu{F:Int->Int}{f:Int->Bool}{l l1 l2:List (Int×List Int)}{k:Int}{lx:List Int}(hn:(l.map (·.1)).Nodup)(h:zB F f l=l1++(k,lx)::l2)(hf:f k=true):
 zB F (fun j=>f j&&decide (j≠k)) l=l1++(k,lx.map F)::l2:=by
 unfold zB at h⊢;obtain⟨o1,o2,rfl,h1,h2⟩:=List.map_eq_append_iff.1 h;obtain⟨y,o3,rfl,h3,h4⟩:=List.map_eq_cons_iff.1 h2;have hk:y.1=k:=congrArg Prod.fst h3
 have hx:y.2=lx:=by
  have:=congrArg Prod.snd h3;simp only[hk,hf,if_true]at this;exact this
 rw[List.map_append,List.map_cons,List.nodup_append]at hn;obtain⟨-,hn2,zQ⟩:=hn;rw[List.nodup_cons]at hn2;rw[List.map_append,List.map_cons,<- h1,<- h4]
 have e1:(o1.map fun x=>(x.1,if (f x.1&&decide (x.1≠k))=true then x.2 else x.2.map F))=o1.map fun x=>(x.1,if f x.1=true then x.2 else x.2.map F):=by
  refine List.map_congr_left fun x hx=>?_
  have:x.1≠k:=fun e=>zQ x.1 (List.mem_map.2 ⟨x,hx,rfl⟩) y.1 (by simp) (by rw[e,hk])
  rw[decide_eq_true this,Bool.and_true]
 have e2:(o3.map fun x=>(x.1,if (f x.1&&decide (x.1≠k))=true then x.2 else x.2.map F))=o3.map fun x=>(x.1,if f x.1=true then x.2 else x.2.map F):=by
  refine List.map_congr_left fun x hx=>?_
  have:x.1≠k:=fun e=>hn2.1 (by rw[hk,<- e];exact List.mem_map.2 ⟨x,hx,rfl⟩)
  rw[decide_eq_true this,Bool.and_true]
 rw[e1,e2];congr 2
 rw[hk,hx];simp
theorem YI{F:Int->Int}{f:Int->Bool}{l:List (Int×List Int)}(h:∀k∈l.map (·.1),f k=false):zB F f l=l.map fun x=>(x.1,x.2.map F):=by
 unfold zB;refine List.map_congr_left fun x hx=>?_
 rw[h x.1 (List.mem_map.2 ⟨x,hx,rfl⟩)];rfl
theorem TV(F:Int->Int)(l:List (Int×List Int)):zB F (fun _=>true) l=l:=by
 unfold zB;simp
end Go.Proofs.YtoepemlnlpamlaaGreat
