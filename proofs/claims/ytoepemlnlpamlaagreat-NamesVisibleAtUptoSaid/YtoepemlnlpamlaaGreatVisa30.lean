/- The law NamesVisibleAt holds where what it reads is of bulk at most 1048576: it returns true, and its arguments read as before. Part 30: Srt2 Srt3 Res1. -/
import Derived.Test.YtoepemlnlpamlaaGreatVisa22
import Derived.Test.YtoepemlnlpamlaaGreatVisa29
set_option maxRecDepth 100000
set_option maxHeartbeats 4000000
namespace Go.Proofs.YtoepemlnlpamlaaGreat
open Go.RowKit
theorem sym_one(l:List (Int×Dg))(A:Option Addr)(n c a m b:Nat)(w:World)(k:l.length=n)(v:bU 6 iM w w.heap.size A l)(u:yR l)(x:m=a+1)(iw:a<m)(hmb:m<b)(hb:b<=n)(hm:n<=1000000):
 Calls Tryz.prog 203 #[.slice A n c,.int .i64 (a:Int),.int .i64 (m:Int),.int .i64 (b:Int),.func (.func 81) #[] #[]] w fun e w'=>e= .returned (.tuple #[])/\Below w.heap.size w w':=by
 have HR:=kH v;have HS:=kH u;have y:=kH k;clear v u k;have H1:=kH x;have hw1:IntKind.i64.wrap ((m:Int) - (a:Int))=(m:Int) - (a:Int):=IntWalk.i64_in _ (by omega);have hc1:((m:Int) - (a:Int)==1)=true:=by simp;omega
 have hw2:IntKind.i64.wrap ((m:Int) - 1)=(m:Int) - 1:=IntWalk.i64_in _ (by omega);have hge:¬((a:Int)<(m:Int) - 1):=by omega
 clear x;go_in
 go_wp2_with fail
 go_loopg [10,11] (b - m) (fun gk Z z wr=> ∃j:Nat,Z= .int .i64 (m:Int)/\z= .int .i64 (j:Int)/\m<=j/\j<=b/\gk=j - m/\Hid (Below w.heap.size w wr))
 case atStart=>exact⟨b,rfl,rfl,by omega,aab _,rfl,kH (Below.refl _ _)⟩
 case round=>
  obtain⟨j,rfl,rfl,hmj,hjb,hgj,K⟩:=hrel;by_cases hlt:m<j
  ·have r:(m:Int)<(j:Int):=by omega
   obtain⟨h,hh⟩:∃h:Nat,h=(m+j) / 2:=⟨_,rfl⟩
   have t:((m:Int)+(j:Int)) / 2=(h:Int):=by omega
   have T:m<=h:=by omega
   have hhj:h<j:=by omega
   have hs1:IntKind.i64.wrap ((m:Int)+(j:Int))=(m:Int)+(j:Int):=IntWalk.i64_in _ (by omega);clear hh;obtain⟨p,V⟩:∃p,l[h]? =some p:=⟨_,aaf (by rw[y.out];omega)⟩
   obtain⟨q,X⟩:∃q,l[a]? =some q:=⟨_,aaf (by rw[y.out];omega)⟩
   have E:=HS.out.cmp X V (by omega);have F:bU 6 iM wr wr.heap.size A l:=HR.out.later K.out;obtain⟨D,B,hA,hbl,I⟩:=Bv F V X;subst hA;obtain⟨p1,L,M,N,O,W⟩:∃p1 L M N O,p=(p1,(⟨L,M,N,O⟩:Dg)):=⟨_,_,_,_,_,rfl⟩
   obtain⟨J,P,Q,R,S,Y⟩:∃J P Q R S,q=(J,(⟨P,Q,R,S⟩:Dg)):=⟨_,_,_,_,_,rfl⟩
   subst W Y;have C:=fun w'=>Ef p1 L M N J P Q R O S (.slice none 0 0) (.slice none 0 0) w'
   rw[show BS p1 J=1 from E]at C;have d:=kH C;have f:=kH I;have hhn:h<n:=by omega
   have han:a<n:=by omega
   clear C I E V X F;go_wp2_with fail
   go_region_held3 (fun w'=>w'.cell? ⟨D,B+h*6,none⟩=some (.int .i64 p1)/\w'.cell? ⟨D,B+h*6+1,none⟩=some (.int .i64 L)/\w'.cell? ⟨D,B+h*6+2,none⟩=some (.int .i64 M)/\w'.cell? ⟨D,B+h*6+3,none⟩=some (.int .i64 N)/\w'.cell? ⟨D,B+h*6+4,none⟩=some (.string O)/\w'.cell? ⟨D,B+h*6+5,none⟩=some (.slice none 0 0)/\w'.cell? ⟨D,B+a*6,none⟩=some (.int .i64 J)/\w'.cell? ⟨D,B+a*6+1,none⟩=some (.int .i64 P)/\w'.cell? ⟨D,B+a*6+2,none⟩=some (.int .i64 Q)/\w'.cell? ⟨D,B+a*6+3,none⟩=some (.int .i64 R)/\w'.cell? ⟨D,B+a*6+4,none⟩=some (.string S)/\w'.cell? ⟨D,B+a*6+5,none⟩=some (.slice none 0 0)) (exact f.out _ (by first|assumption|exact(Below.refl _ _).drew)) ((go_at_call 81;refine(d.out _).mono ?_;rintro e5 g ⟨rfl,G⟩;have H:Below wr.heap.size wr g:=((Below.refl wr.heap.size wr).drew).trans G))
   have gG:Hid (Below w.heap.size w g):=kH (K.out.trans (H.mono K.out.size));clear H G;go_wp2_with fail
   go_roundg (h - m)
   case measure=>omega
   case rel=>exact⟨h,rfl,rfl,T,by omega,rfl,gG⟩
  ·have U:j=m:=by omega
   subst U;have hnl:¬((j:Int)<(j:Int)):=by omega
   go_wp2_with fail
   refine wp_loop_rounds 1 ?_;rw[rounds_succ];go_wp2_with fail
   try simp only[Exit.inBlock,Exit.then]
   refine bodyPost_ret (results_none rfl _ _ _) rfl ?_;exact⟨rfl,K.out⟩
theorem sym_two(l:List (Int×Dg))(A:Option Addr)(n c a m b:Nat)(w:World)(k:l.length=n)(v:bU 6 iM w w.heap.size A l)(u:yR l)(y:m≠a+1)(x:b=m+1)(iw:a<m)(hmb:m<b)(hb:b<=n)(hm:n<=1000000):
 Calls Tryz.prog 203 #[.slice A n c,.int .i64 (a:Int),.int .i64 (m:Int),.int .i64 (b:Int),.func (.func 81) #[] #[]] w fun e w'=>e= .returned (.tuple #[])/\Below w.heap.size w w':=by
 have d:=kH v;have HS:=kH u;have z:=kH k;clear v u k;have H2:=kH (And.intro y x);have hw1:IntKind.i64.wrap ((m:Int) - (a:Int))=(m:Int) - (a:Int):=IntWalk.i64_in _ (by omega);have hc1:((m:Int) - (a:Int)==1)=false:=by simp;omega
 have hw3:IntKind.i64.wrap ((b:Int) - (m:Int))=(b:Int) - (m:Int):=IntWalk.i64_in _ (by omega);have hc3:((b:Int) - (m:Int)==1)=true:=by simp;omega
 clear y x;go_in
 go_wp2_with fail
 go_loopg [14,15] (m - a) (fun gk Y Z wr=> ∃i:Nat,Y= .int .i64 (i:Int)/\Z= .int .i64 (m:Int)/\a<=i/\i<=m/\gk=m - i/\Hid (Below w.heap.size w wr))
 case atStart=>exact⟨a,rfl,rfl,aab _,by omega,rfl,kH (Below.refl _ _)⟩
 case round=>
  obtain⟨i,rfl,rfl,hai,him,hgi,K⟩:=hrel;by_cases hlt:i<m
  ·have r:(i:Int)<(m:Int):=by omega
   obtain⟨h,hh⟩:∃h:Nat,h=(i+m) / 2:=⟨_,rfl⟩
   have t:((i:Int)+(m:Int)) / 2=(h:Int):=by omega
   have hhm:i<=h:=by omega
   have hhj:h<m:=by omega
   have hs1:IntKind.i64.wrap ((i:Int)+(m:Int))=(i:Int)+(m:Int):=IntWalk.i64_in _ (by omega);have hs2:IntKind.i64.wrap ((h:Int)+1)=(h:Int)+1:=IntWalk.i64_in _ (by omega);clear hh;obtain⟨p,U⟩:∃p,l[m]? =some p:=⟨_,aaf (by rw[z.out];omega)⟩
   obtain⟨q,W⟩:∃q,l[h]? =some q:=⟨_,aaf (by rw[z.out];omega)⟩
   have E:=HS.out.cmp W U (by omega);have F:bU 6 iM wr wr.heap.size A l:=d.out.later K.out;obtain⟨D,B,hA,hbl,I⟩:=Bv F U W;subst hA;obtain⟨p1,L,M,N,O,V⟩:∃p1 L M N O,p=(p1,(⟨L,M,N,O⟩:Dg)):=⟨_,_,_,_,_,rfl⟩
   obtain⟨J,P,Q,R,S,X⟩:∃J P Q R S,q=(J,(⟨P,Q,R,S⟩:Dg)):=⟨_,_,_,_,_,rfl⟩
   subst V X;have C:=fun w'=>Ef p1 L M N J P Q R O S (.slice none 0 0) (.slice none 0 0) w'
   rw[show BS p1 J=1 from E]at C;have f:=kH C;have g:=kH I;have hhn:h<n:=by omega
   have han:m<n:=by omega
   clear C I E U W F;go_wp2_with fail
   go_region_held3 (fun w'=>w'.cell? ⟨D,B+m*6,none⟩=some (.int .i64 p1)/\w'.cell? ⟨D,B+m*6+1,none⟩=some (.int .i64 L)/\w'.cell? ⟨D,B+m*6+2,none⟩=some (.int .i64 M)/\w'.cell? ⟨D,B+m*6+3,none⟩=some (.int .i64 N)/\w'.cell? ⟨D,B+m*6+4,none⟩=some (.string O)/\w'.cell? ⟨D,B+m*6+5,none⟩=some (.slice none 0 0)/\w'.cell? ⟨D,B+h*6,none⟩=some (.int .i64 J)/\w'.cell? ⟨D,B+h*6+1,none⟩=some (.int .i64 P)/\w'.cell? ⟨D,B+h*6+2,none⟩=some (.int .i64 Q)/\w'.cell? ⟨D,B+h*6+3,none⟩=some (.int .i64 R)/\w'.cell? ⟨D,B+h*6+4,none⟩=some (.string S)/\w'.cell? ⟨D,B+h*6+5,none⟩=some (.slice none 0 0)) (exact g.out _ (by first|assumption|exact(Below.refl _ _).drew)) ((go_at_call 81;refine(f.out _).mono ?_;rintro e5 j ⟨rfl,G⟩;have H:Below wr.heap.size wr j:=((Below.refl wr.heap.size wr).drew).trans G))
   have gG:Hid (Below w.heap.size w j):=kH (K.out.trans (H.mono K.out.size));clear H G;go_wp2_with fail
   go_roundg (m - (h+1))
   case measure=>omega
   case rel=>exact⟨h+1,by simp,rfl,by omega,by omega,rfl,gG⟩
  ·have T:i=m:=by omega
   subst T;have hnl:¬((i:Int)<(i:Int)):=by omega
   go_wp2_with fail
   refine wp_loop_rounds 1 ?_;rw[rounds_succ];go_wp2_with fail
   try simp only[Exit.inBlock,Exit.then]
   refine bodyPost_ret (results_none rfl _ _ _) rfl ?_;exact⟨rfl,K.out⟩
theorem sym_up(l:List (Int×Dg))(A:Option Addr)(n c a m b:Nat)(w:World)(hn:l.length=n)(hR:bU 6 iM w w.heap.size A l)(hS:yR l)(h1:m≠a+1)(h2:b≠m+1)(B:Nat)(T:B=(a+b) / 2)(h3:B<m)(H:∀w,bU 6 iM w w.heap.size A l->Calls Tryz.prog 203 #[.slice A n c,.int .i64 (B:Int),.int .i64 (m:Int),.int .i64 (b:Int),.func (.func 81) #[] #[]] w fun e w'=>e= .returned (.tuple #[])/\Below w.heap.size w w')(iw:a<m)(hmb:m<b)(hb:b<=n)(hm:n<=1000000):
 Calls Tryz.prog 203 #[.slice A n c,.int .i64 (a:Int),.int .i64 (m:Int),.int .i64 (b:Int),.func (.func 81) #[] #[]] w fun e w'=>e= .returned (.tuple #[])/\Below w.heap.size w w':=by
 have HR:=kH hR;have HS:=kH hS;have HN:=kH hn;clear hR hS hn;have N:=kH H;have Wl:=kH (And.intro h1 (And.intro h2 h3));have hw1:IntKind.i64.wrap ((m:Int) - (a:Int))=(m:Int) - (a:Int):=IntWalk.i64_in _ (by omega);have hc1:((m:Int) - (a:Int)==1)=false:=by simp;omega
 have hw3:IntKind.i64.wrap ((b:Int) - (m:Int))=(b:Int) - (m:Int):=IntWalk.i64_in _ (by omega);have hc3:((b:Int) - (m:Int)==1)=false:=by simp;omega
 have hw4:IntKind.i64.wrap ((a:Int)+(b:Int))=(a:Int)+(b:Int):=IntWalk.i64_in _ (by omega);have hmid:((a:Int)+(b:Int)) / 2=(B:Int):=by omega
 obtain⟨E,J⟩:∃E:Nat,E=B+m:=⟨_,rfl⟩
 have jw:IntKind.i64.wrap ((B:Int)+(m:Int))=(E:Int):=by rw[J,IntWalk.i64_in _ (by omega)];omega
 obtain⟨K,ZO⟩:∃K:Nat,K+1=E:=⟨E - 1,by omega⟩
 have hpv:IntKind.i64.wrap ((E:Int) - 1)=(K:Int):=by rw[IntWalk.i64_in _ (by omega)];omega
 obtain⟨L,U⟩:∃L:Nat,L+b=E:=⟨E - b,by omega⟩
 have hsv:IntKind.i64.wrap ((E:Int) - (b:Int))=(L:Int):=by rw[IntWalk.i64_in _ (by omega)];omega
 have hev:IntKind.i64.wrap ((E:Int) - (B:Int))=(m:Int):=by rw[IntWalk.i64_in _ (by omega)];omega
 have hgt:(B:Int)<(m:Int):=by omega
 have hmb':(m:Int)<(b:Int):=by omega
 have hn1:¬((m:Int)<(m:Int)):=by omega
 have hn2:¬((B:Int)<(B:Int)):=by omega
 have I:Hid (B=(a+b) / 2/\E=B+m/\K+1=E/\L+b=E):=kH ⟨T,J,ZO,U⟩;clear T J ZO H h1 h2 U;go_in
 go_wp2_with fail
 go_loopg [20,21] (B - L) (fun gk d Y8 wr=> ∃i:Nat,d= .int .i64 (i:Int)/\Y8= .int .i64 (B:Int)/\L<=i/\i<=B/\gk=B - i/\Hid (Below w.heap.size w wr))
 case atStart=>exact⟨L,rfl,rfl,aab _,by have:=I.out;omega,rfl,kH (Below.refl _ _)⟩
 case round=>
  obtain⟨i,rfl,rfl,hai,him,hgi,M⟩:=hrel;by_cases hlt:i<B
  ·have hlt':(i:Int)<(B:Int):=by omega
   obtain⟨h,hh⟩:∃h:Nat,h=(i+B) / 2:=⟨_,rfl⟩
   have hdiv:((i:Int)+(B:Int)) / 2=(h:Int):=by omega
   have hhm:i<=h:=by omega
   have hhj:h<B:=by omega
   have hs1:IntKind.i64.wrap ((i:Int)+(B:Int))=(i:Int)+(B:Int):=IntWalk.i64_in _ (by have:=I.out;omega);have hs2:IntKind.i64.wrap ((h:Int)+1)=(h:Int)+1:=IntWalk.i64_in _ (by have:=I.out;omega);obtain⟨g,hg⟩:∃g:Nat,g+h=K:=⟨K - h,by have:=I.out;omega⟩
   have hgv:IntKind.i64.wrap ((K:Int) - (h:Int))=(g:Int):=by rw[IntWalk.i64_in _ (by have:=I.out;omega)];omega
   have hgh:h<g:=by have:=I.out;omega
   have hgn:g<n:=by have:=I.out;omega
   clear hh hg;obtain⟨p,r⟩:∃p,l[g]? =some p:=⟨_,aaf (by rw[HN.out];omega)⟩
   obtain⟨q,j⟩:∃q,l[h]? =some q:=⟨_,aaf (by rw[HN.out];omega)⟩
   have G:=HS.out.cmp j r (by omega);have O:bU 6 iM wr wr.heap.size A l:=HR.out.later M.out;obtain⟨F,D,hA,hbl,S⟩:=Bv O r j;subst hA;obtain⟨p1,W,X,Y,Z,k⟩:∃p1 W X Y Z,p=(p1,(⟨W,X,Y,Z⟩:Dg)):=⟨_,_,_,_,_,rfl⟩
   obtain⟨V,z,y,x,v,f⟩:∃V z y x v,q=(V,(⟨z,y,x,v⟩:Dg)):=⟨_,_,_,_,_,rfl⟩
   subst k f;have C:=fun w'=>Ef p1 W X Y V z y x Z v (.slice none 0 0) (.slice none 0 0) w'
   rw[show BS p1 V=1 from G]at C;have u:=kH C;have Cj:=kH S;have hhn:h<n:=by omega
   clear C S G r j O;go_wp2_with fail
   go_region_held3 (fun w'=>w'.cell? ⟨F,D+g*6,none⟩=some (.int .i64 p1)/\w'.cell? ⟨F,D+g*6+1,none⟩=some (.int .i64 W)/\w'.cell? ⟨F,D+g*6+2,none⟩=some (.int .i64 X)/\w'.cell? ⟨F,D+g*6+3,none⟩=some (.int .i64 Y)/\w'.cell? ⟨F,D+g*6+4,none⟩=some (.string Z)/\w'.cell? ⟨F,D+g*6+5,none⟩=some (.slice none 0 0)/\w'.cell? ⟨F,D+h*6,none⟩=some (.int .i64 V)/\w'.cell? ⟨F,D+h*6+1,none⟩=some (.int .i64 z)/\w'.cell? ⟨F,D+h*6+2,none⟩=some (.int .i64 y)/\w'.cell? ⟨F,D+h*6+3,none⟩=some (.int .i64 x)/\w'.cell? ⟨F,D+h*6+4,none⟩=some (.string v)/\w'.cell? ⟨F,D+h*6+5,none⟩=some (.slice none 0 0)) (exact Cj.out _ (by first|assumption|exact(Below.refl _ _).drew)) ((go_at_call 81;refine(u.out _).mono ?_;rintro e5 w5 ⟨rfl,P⟩;have R:Below wr.heap.size wr w5:=((Below.refl wr.heap.size wr).drew).trans P))
   have gG:Hid (Below w.heap.size w w5):=kH (M.out.trans (R.mono M.out.size));clear R P;go_wp2_with fail
   go_roundg (B - (h+1))
   case measure=>omega
   case rel=>exact⟨h+1,by simp,rfl,by omega,by omega,rfl,gG⟩
  ·have t:i=B:=by omega
   subst t;have C:=N.out wr (HR.out.later M.out);have u:=kH C;clear C;go_wp2_with fail
   refine u.out.mono ?_;rintro e6 w6 ⟨rfl,Q⟩;have nI:Hid (Below w.heap.size w w6):=kH (M.out.trans (Q.mono M.out.size));clear Q;go_wp2_with fail
   go_end0
   exact⟨rfl,nI.out⟩
theorem sym_down(l:List (Int×Dg))(A:Option Addr)(n c a m b:Nat)(w:World)(hn:l.length=n)(hR:bU 6 iM w w.heap.size A l)(hS:yR l)(h1:m≠a+1)(h2:b≠m+1)(B:Nat)(T:B=(a+b) / 2)(h3:¬B<m)(H:m<B->∀w,bU 6 iM w w.heap.size A l->Calls Tryz.prog 203 #[.slice A n c,.int .i64 (a:Int),.int .i64 (m:Int),.int .i64 (B:Int),.func (.func 81) #[] #[]] w fun e w'=>e= .returned (.tuple #[])/\Below w.heap.size w w')(iw:a<m)(hmb:m<b)(hb:b<=n)(hm:n<=1000000):
 Calls Tryz.prog 203 #[.slice A n c,.int .i64 (a:Int),.int .i64 (m:Int),.int .i64 (b:Int),.func (.func 81) #[] #[]] w fun e w'=>e= .returned (.tuple #[])/\Below w.heap.size w w':=by
 have HR:=kH hR;have HS:=kH hS;have HN:=kH hn;clear hR hS hn;have M:=kH H;have Wl:=kH (And.intro h1 (And.intro h2 h3));have hw1:IntKind.i64.wrap ((m:Int) - (a:Int))=(m:Int) - (a:Int):=IntWalk.i64_in _ (by omega);have hc1:((m:Int) - (a:Int)==1)=false:=by simp;omega
 have hw3:IntKind.i64.wrap ((b:Int) - (m:Int))=(b:Int) - (m:Int):=IntWalk.i64_in _ (by omega);have hc3:((b:Int) - (m:Int)==1)=false:=by simp;omega
 have hw4:IntKind.i64.wrap ((a:Int)+(b:Int))=(a:Int)+(b:Int):=IntWalk.i64_in _ (by omega);have hmid:((a:Int)+(b:Int)) / 2=(B:Int):=by omega
 obtain⟨F,K⟩:∃F:Nat,F=B+m:=⟨_,rfl⟩
 have jw:IntKind.i64.wrap ((B:Int)+(m:Int))=(F:Int):=by rw[K,IntWalk.i64_in _ (by omega)];omega
 obtain⟨L,ZO⟩:∃L:Nat,L+1=F:=⟨F - 1,by omega⟩
 have hpv:IntKind.i64.wrap ((F:Int) - 1)=(L:Int):=by rw[IntWalk.i64_in _ (by omega)];omega
 have hev:IntKind.i64.wrap ((F:Int) - (m:Int))=(B:Int):=by rw[IntWalk.i64_in _ (by omega)];omega
 have hgt:¬((B:Int)<(m:Int)):=by omega
 have ham':(a:Int)<(m:Int):=by omega
 have hn1:¬((m:Int)<(m:Int)):=by omega
 have hn2:¬((B:Int)<(B:Int)):=by omega
 have J:Hid (B=(a+b) / 2/\F=B+m/\L+1=F):=kH ⟨T,K,ZO⟩;clear T K ZO H h1 h2;go_in
 go_wp2_with fail
 go_loopg [20,21] (m - a) (fun gk d Y8 wr=> ∃i:Nat,d= .int .i64 (i:Int)/\Y8= .int .i64 (m:Int)/\a<=i/\i<=m/\gk=m - i/\Hid (Below w.heap.size w wr))
 case atStart=>exact⟨a,rfl,rfl,aab _,by have:=J.out;omega,rfl,kH (Below.refl _ _)⟩
 case round=>
  obtain⟨i,rfl,rfl,hai,him,hgi,I⟩:=hrel;by_cases hlt:i<m
  ·have hlt':(i:Int)<(m:Int):=by omega
   obtain⟨h,hh⟩:∃h:Nat,h=(i+m) / 2:=⟨_,rfl⟩
   have hdiv:((i:Int)+(m:Int)) / 2=(h:Int):=by omega
   have hhm:i<=h:=by omega
   have hhj:h<m:=by omega
   have hs1:IntKind.i64.wrap ((i:Int)+(m:Int))=(i:Int)+(m:Int):=IntWalk.i64_in _ (by have:=J.out;omega);have hs2:IntKind.i64.wrap ((h:Int)+1)=(h:Int)+1:=IntWalk.i64_in _ (by have:=J.out;omega);obtain⟨g,hg⟩:∃g:Nat,g+h=L:=⟨L - h,by have:=J.out;omega⟩
   have hgv:IntKind.i64.wrap ((L:Int) - (h:Int))=(g:Int):=by rw[IntWalk.i64_in _ (by have:=J.out;omega)];omega
   have hgh:h<g:=by have:=J.out;omega
   have hgn:g<n:=by have:=J.out;omega
   clear hh hg;obtain⟨p,r⟩:∃p,l[g]? =some p:=⟨_,aaf (by rw[HN.out];omega)⟩
   obtain⟨q,j⟩:∃q,l[h]? =some q:=⟨_,aaf (by rw[HN.out];omega)⟩
   have G:=HS.out.cmp j r (by omega);have N:bU 6 iM wr wr.heap.size A l:=HR.out.later I.out;obtain⟨E,D,hA,hbl,R⟩:=Bv N r j;subst hA;obtain⟨p1,V,W,X,Y,k⟩:∃p1 V W X Y,p=(p1,(⟨V,W,X,Y⟩:Dg)):=⟨_,_,_,_,_,rfl⟩
   obtain⟨U,Z,z,y,x,f⟩:∃U Z z y x,q=(U,(⟨Z,z,y,x⟩:Dg)):=⟨_,_,_,_,_,rfl⟩
   subst k f;have C:=fun w'=>Ef p1 V W X U Z z y Y x (.slice none 0 0) (.slice none 0 0) w'
   rw[show BS p1 U=1 from G]at C;have v:=kH C;have Cj:=kH R;have hhn:h<n:=by omega
   clear C R G r j N;go_wp2_with fail
   go_region_held3 (fun w'=>w'.cell? ⟨E,D+g*6,none⟩=some (.int .i64 p1)/\w'.cell? ⟨E,D+g*6+1,none⟩=some (.int .i64 V)/\w'.cell? ⟨E,D+g*6+2,none⟩=some (.int .i64 W)/\w'.cell? ⟨E,D+g*6+3,none⟩=some (.int .i64 X)/\w'.cell? ⟨E,D+g*6+4,none⟩=some (.string Y)/\w'.cell? ⟨E,D+g*6+5,none⟩=some (.slice none 0 0)/\w'.cell? ⟨E,D+h*6,none⟩=some (.int .i64 U)/\w'.cell? ⟨E,D+h*6+1,none⟩=some (.int .i64 Z)/\w'.cell? ⟨E,D+h*6+2,none⟩=some (.int .i64 z)/\w'.cell? ⟨E,D+h*6+3,none⟩=some (.int .i64 y)/\w'.cell? ⟨E,D+h*6+4,none⟩=some (.string x)/\w'.cell? ⟨E,D+h*6+5,none⟩=some (.slice none 0 0)) (exact Cj.out _ (by first|assumption|exact(Below.refl _ _).drew)) ((go_at_call 81;refine(v.out _).mono ?_;rintro e5 w5 ⟨rfl,O⟩;have Q:Below wr.heap.size wr w5:=((Below.refl wr.heap.size wr).drew).trans O))
   have gG:Hid (Below w.heap.size w w5):=kH (I.out.trans (Q.mono I.out.size));clear Q O;go_wp2_with fail
   go_roundg (m - (h+1))
   case measure=>omega
   case rel=>exact⟨h+1,by simp,rfl,by omega,by omega,rfl,gG⟩
  ·have u:i=m:=by omega
   subst u;by_cases t:i<B
   ·have S:(i:Int)<(B:Int):=by omega
    have C:=M.out t wr (HR.out.later I.out);have v:=kH C;clear C;go_wp2_with fail
    refine v.out.mono ?_;rintro e6 w6 ⟨rfl,P⟩;have nI:Hid (Below w.heap.size w w6):=kH (I.out.trans (P.mono I.out.size));clear P;go_wp2_with fail
    go_end0
    exact⟨rfl,nI.out⟩
   ·have S:¬((i:Int)<(B:Int)):=by omega
    go_wp2_with fail
    go_end0
    exact⟨rfl,I.out⟩
theorem NF(l:List (Int×Dg))(A:Option Addr)(n c:Nat)(E:l.length=n)(C:yR l)(D:n<=1000000):∀(k a m b:Nat),b - a<=k->a<m->m<b->b<=n->∀w:World,bU 6 iM w w.heap.size A l ->
 Calls Tryz.prog 203 #[.slice A n c,.int .i64 (a:Int),.int .i64 (m:Int),.int .i64 (b:Int),.func (.func 81) #[] #[]] w fun e w'=>e= .returned (.tuple #[])/\Below w.heap.size w w'
 | 0,a,m,b,h,h1,h2,_,_,_=>by omega
 | k+1,a,m,b,h,h1,h2,h3,w,B=>by
  by_cases F:m=a+1
  ·exact sym_one l A n c a m b w E B C F h1 h2 h3 D
  by_cases G:b=m+1
  ·exact sym_two l A n c a m b w E B C F G h1 h2 h3 D
  by_cases H:(a+b) / 2<m
  ·exact sym_up l A n c a m b w E B C F G _ rfl H (fun w B=>NF l A n c E C D k _ m b (by omega) H h2 h3 w B) h1 h2 h3 D
  ·exact sym_down l A n c a m b w E B C F G _ rfl H (fun I w B=>NF l A n c E C D k a m _ (by omega) h1 I (by omega) w B) h1 h2 h3 D
theorem WB(l:List (Int×Dg))(A:Option Addr)(n c:Nat)(w:World)(z:l.length=n)(W:bU 6 iM w w.heap.size A l)(X:yR l)(d:n<=1000000):
 Calls Tryz.prog 150 #[.slice A n c,.int .i64 (n:Int),.func (.func 81) #[] #[]] w fun e w'=>e= .returned (.tuple #[])/\Below w.heap.size w w':=by
 have I:∀(a b:Nat) (F:World),Below w.heap.size w F->a<=b->b<=n->Calls Tryz.prog 202 #[.slice A n c,.int .i64 (a:Int),.int .i64 (b:Int),.func (.func 81) #[] #[]] F fun e w'=>e= .returned (.tuple #[])/\Below w.heap.size w w':=fun a b F M T U=>
  (ins_any l A n c a b F z (W.later M) X T U d).mono fun e w' ⟨O,V⟩=>⟨O,M.trans (V.mono M.size)⟩
 have K:∀(a m b:Nat) (F:World),Below w.heap.size w F->a<m->m<b->b<=n->Calls Tryz.prog 203 #[.slice A n c,.int .i64 (a:Int),.int .i64 (m:Int),.int .i64 (b:Int),.func (.func 81) #[] #[]] F fun e w'=>e= .returned (.tuple #[])/\Below w.heap.size w w':=fun a m b F M T U O=>
  (NF l A n c z X d (b - a) a m b (aab _) T U O F (W.later M)).mono fun e w' ⟨O,V⟩=>⟨O,M.trans (V.mono M.size)⟩
 have G:=kH I;have H:=kH K;clear I K z W X;go_in
 go_wp2_with fail
 go_loopg [7,8] (n+1) (fun gk x v wr=> ∃i:Nat,x= .int .i64 (i:Int)/\v= .int .i64 ((i:Int)+20)/\i<=n/\gk=n+1 - i/\Hid (Below w.heap.size w wr))
 case atStart=>exact⟨0,rfl,rfl,Nat.zero_le _,rfl,kH (Below.refl _ _)⟩
 case round=>
  obtain⟨i,rfl,rfl,Y,hgi,t⟩:=hrel;by_cases P:i+20<=n
  ·have g:(i:Int)+20<=(n:Int):=by omega
   have hw:IntKind.i64.wrap ((i:Int)+20+20)=(i:Int)+20+20:=IntWalk.i64_in _ (by omega);have B:=G.out i (i+20) wr t.out (by omega) P;rw[show((i+20:Nat):Int)=(i:Int)+20 by omega]at B;have R:=kH B;clear B;go_wp2_with fail
   refine R.out.mono ?_;rintro e5 w5 ⟨rfl,D⟩;have S:=kH D;clear D;go_wp2_with fail
   go_roundg (n+1 - (i+20))
   case measure=>omega
   case rel=>exact⟨i+20,by simp,by simp,P,rfl,S⟩
  ·have hgt:¬((i:Int)+20<=(n:Int)):=by omega
   have B:=G.out i n wr t.out Y (aab _);have R:=kH B;clear B;go_wp2_with fail
   refine R.out.mono ?_;rintro e5 w5 ⟨rfl,D⟩;have S:=kH D;clear D;go_wp2_with fail
   obtain⟨wo,hwo⟩:∃wo:World,wo=w5:=⟨_,rfl⟩
   go_loopg [6] (n+1 - 20) (fun gk s6 wr=> ∃s:Nat,s6= .int .i64 (s:Int)/\20<=s/\s<=n+n+20/\gk=n+1 - s/\Hid (Below w.heap.size w wr))
   case atStart=>exact⟨20,rfl,aab _,by omega,by omega,S⟩
   case round=>
    obtain⟨s,rfl,hs20,hsn,hgs,N⟩:=hrel;by_cases hlt:s<n
    ·have f:(s:Int)<(n:Int):=by omega
     have hw2:IntKind.i64.wrap (2*(s:Int))=2*(s:Int):=IntWalk.i64_in _ (by omega);have hw3:IntKind.i64.wrap ((s:Int)*2)=(s:Int)*2:=IntWalk.i64_in _ (by omega);go_wp2_with fail
     obtain⟨r,hgo⟩:∃r:Nat,r=gk:=⟨_,rfl⟩
     go_loopg [7,8] (n+1) (fun gk x v wr=> ∃i:Nat,x= .int .i64 (i:Int)/\v= .int .i64 ((i:Int)+2*(s:Int))/\i<=n/\gk=n+1 - i/\Hid (Below w.heap.size w wr))
     case atStart=>exact⟨0,rfl,by simp,Nat.zero_le _,rfl,N⟩
     case round=>
      obtain⟨C,rfl,rfl,j,q,L⟩:=hrel;have hw5:IntKind.i64.wrap ((C:Int)+(s:Int))=(C:Int)+(s:Int):=IntWalk.i64_in _ (by omega);by_cases J:C+2*s<=n
      ·have Z:(C:Int)+2*(s:Int)<=(n:Int):=by omega
       have hw6:IntKind.i64.wrap ((C:Int)+2*(s:Int)+2*(s:Int))=(C:Int)+2*(s:Int)+2*(s:Int):=IntWalk.i64_in _ (by omega);have B:=H.out C (C+s) (C+2*s) _ L.out (by omega) (by omega) J;rw[show((C+s:Nat):Int)=(C:Int)+(s:Int) by omega,show((C+2*s:Nat):Int)=(C:Int)+2*(s:Int) by omega]at B;have u:=kH B;clear B;go_wp2_with fail
       refine u.out.mono ?_;rintro e6 w6 ⟨rfl,E⟩;have y:=kH E;clear E;go_wp2_with fail
       go_roundg (n+1 - (C+2*s))
       case measure=>omega
       case rel=>exact⟨C+2*s,by simp,by simp,J,rfl,y⟩
      ·have k:¬((C:Int)+2*(s:Int)<=(n:Int)):=by omega
       by_cases hm2:C+s<n
       ·have Q:(C:Int)+(s:Int)<(n:Int):=by omega
        have B:=H.out C (C+s) n _ L.out (by omega) (by omega) (aab _);rw[show((C+s:Nat):Int)=(C:Int)+(s:Int) by omega]at B;have u:=kH B;clear B;go_wp2_with fail
        refine u.out.mono ?_;rintro e6 w6 ⟨rfl,E⟩;have y:=kH E;clear E;go_wp2_with fail
        go_roundg (n+1 - 2*s)
        case measure=>omega
        case rel=>exact⟨2*s,by simp;omega,by omega,by omega,rfl,y⟩
       ·have Q:¬((C:Int)+(s:Int)<(n:Int)):=by omega
        go_wp2_with fail
        go_roundg (n+1 - 2*s)
        case measure=>omega
        case rel=>exact⟨2*s,by simp;omega,by omega,by omega,rfl,L⟩
    ·have hge:¬((s:Int)<(n:Int)):=by omega
     go_wp2_with fail
     go_end0
     exact⟨rfl,N.out⟩
theorem NG(l:List (Int×Dg))(A:Option Addr)(n c:Nat)(w:World)(G:l.length=n)(C:bU 6 iM w w.heap.size A l)(D:yR l)(I:n<=1000000):
 Calls Tryz.prog 80 #[.slice A n c,.func (.func 81) #[] #[]] w fun e w'=>e= .returned (.tuple #[])/\Below w.heap.size w w':=by
 have F:=WB l A n c w G C D I;have B:=kH F;clear F G C D;go_in
 go_wp2_with fail
 refine B.out.mono ?_;rintro e J ⟨rfl,E⟩;have H:=kH E;clear E B;go_wp2_with fail
 go_end0
 exact⟨rfl,H.out⟩
theorem aX.pushU{E:RC}{G:bC}{r:RS}{V:RV}{w B:World}(h:aX E G r V w)(T:r.aR=[])(N:V.vals=[])(x:Int){A3:Option Addr}{c3:Nat}
 (P:aK B E.base 3 1 (.slice A3 (r.uses.length+1) c3) (r.uses.length+1) (iB r.uses++[.int .i64 x])) (D:w.grownBy B (Value.slice E.uA r.uses.length E.uc).ownBlock):
 aX { E with uA:=A3,uc:=c3 } G { r with uses:=r.uses++[x] } V (B.setCell ⟨E.rp,4,none⟩ (.slice A3 (r.uses.length+1) c3))/\aF (fun g=>E.base<=g) w (B.setCell ⟨E.rp,4,none⟩ (.slice A3 (r.uses.length+1) c3)):=by
 have M:aF (fun g=>g=E.rp\/(Value.slice E.uA r.uses.length E.uc).ownBlock=some g) w (B.setCell ⟨E.rp,4,none⟩ (.slice A3 (r.uses.length+1) c3)):=
  ((aF.refl _ w).grown D (fun g D=>.inl (.inr D))).setCell (.inl (.inl rfl)) _
 have L:(Value.slice E.uA r.uses.length E.uc).ownBlock≠some E.rp:=h.us.cB h.blk (by decide);have H:aj B E.rp 75 _:=h.blk.grown D (Ne.symm L)
 have J:∀{K:Type} [DecidableEq K] {KK:oW K}{q:Nat}{m:List (K×Value)},bA KK w q m->bA KK (B.setCell ⟨E.rp,4,none⟩ (.slice A3 (r.uses.length+1) c3)) q m:=fun C=>C.since M (fun A=>by
  rcases A with A|A
  ·exact C.rJ h.blk A
  ·exact C.jl h.us A)
 have I:∀{e size v n xs},aK w E.base e size v n xs->e≠75->e≠3->aK (B.setCell ⟨E.rp,4,none⟩ (.slice A3 (r.uses.length+1) c3)) E.base e size v n xs:=fun C A S=>C.since M (fun g D F=>by
  rcases F with F|F
  ·exact C.cB h.blk A (by rw[D,F])
  ·exact C.apart h.us S g D F)
 have O:(r.uses++[x]).length=r.uses.length+1:=by simp
 have R:iB (r.uses++[x])=iB r.uses++[.int .i64 x]:=by simp[iB]
 refine⟨⟨?_,J h.gl,J h.fl,J h.kn,J h.vi,?_,I h.ds (by decide) (by decide),?_,I h.ps (by decide) (by decide),h.low,h.apart⟩,?_⟩
 ·have:=H.gu 4 (.slice A3 (r.uses.length+1) c3)
  simp only[O];simpa using this
 ·simp only[T,N]
  rfl
 ·have Q:(Value.slice A3 (r.uses.length+1) c3).ownBlock≠some E.rp:=P.cB H (by decide)
  have:=P.setCell (p:=⟨E.rp,4,none⟩) Q (.slice A3 (r.uses.length+1) c3);simp only[O,R];exact this
 ·refine aF.mono M fun g A=>?_
  rcases A with rfl|A
  ·exact h.low.1
  ·exact(h.us.lt g A).1
theorem aX.collected{E:RC}{G H:bC}{r:RS}{V:RV}{w w':World}(h:aX E G r V w)(C:aF (fun x=>x=E.g\/x=E.f\/x=E.k) w w')(D:CG E.g E.f E.k H w'):aX E H r V w' where
 blk:=h.blk.since C (fun A=>by
  rcases A with A|A|A
  ·exact h.gl.rJ h.blk A.symm
  ·exact h.fl.rJ h.blk A.symm
  ·exact h.kn.rJ h.blk A.symm)
 gl:=D.gl
 fl:=D.fl
 kn:=D.kn
 vi:=h.vi.since C (fun A=>by have:=h.apart;omega)
 aR:=fG.of_block h.aR fun g cur B _=>C.block g (aae.1 B).1 fun A=>by
  have F:∃J I,w.heap[g]? =some (.map J I):=by
   rcases A with rfl|rfl|rfl
   ·exact h.gl.isMap
   ·exact h.fl.isMap
   ·exact h.kn.isMap
  obtain⟨J,I,F⟩:=F;rw[F]at B;cases B
 ds:=h.ds.since C (fun g B A=>by
  rcases A with rfl|rfl|rfl
  ·exact h.gl.jl h.ds B
  ·exact h.fl.jl h.ds B
  ·exact h.kn.jl h.ds B)
 us:=h.us.since C (fun g B A=>by
  rcases A with rfl|rfl|rfl
  ·exact h.gl.jl h.us B
  ·exact h.fl.jl h.us B
  ·exact h.kn.jl h.us B)
 ps:=h.ps.since C (fun g B A=>by
  rcases A with rfl|rfl|rfl
  ·exact h.gl.jl h.ps B
  ·exact h.fl.jl h.ps B
  ·exact h.kn.jl h.ps B)
 low:=h.low
 apart:=h.apart
theorem fG.since{w w':World}{base:Nat}{B:Option Nat}{S:Nat->Prop}(A:aF S w w'):∀{l:List (Int×List Int)}{vals:List (Int×Value)},fG w base B l vals->(∀y∈vals,∀g,y.2.ownBlock=some g->¬S g)->fG w' base B l vals
 | [],_,h,_=>h
 | x::_,_,⟨v,vs,h1,h2,h3,h4⟩,hk=>by
  subst h1;exact⟨v,vs,rfl,h2.since A (fun g C=>hk (x.1,v) (by simp) g C),h3,fG.since A h4 fun y D=>hk y (by simp[D])⟩
theorem fG.split{w:World}{base:Nat}{O:Option Nat}{k:Int}{v:Value}{E:List (Int×Value)}:∀(D:List (Int×Value)) {l:List (Int×List Int)},fG w base O l (D++(k,v)::E) ->
 ∃I A J,l=I++(k,A)::J/\aK w base 3 1 v A.length (iB A)/\(∀g,v.ownBlock=some g->O≠some g) /\
  ∀B w',aK w' base 3 1 v B.length (iB B)->aF (fun g=>v.ownBlock=some g) w w'->fG w' base O (I++(k,B)::J) (D++(k,v)::E)
 | [],l,h=>by
  cases l with
  | nil=>
   have:([]:List (Int×Value))++(k,v)::E=[]:=h
   cases this
  | cons x l=>
   obtain⟨P,X,F,K,C,L⟩:=h;simp only[List.nil_append,List.cons.injEq,Prod.mk.injEq]at F;obtain⟨⟨Q,rfl⟩,rfl⟩:=F;obtain⟨W,A⟩:=x;have R:k=W:=Q;subst R;exact⟨[],A,l,rfl,K,fun g G=>(C g G).1,fun B w' M H=>⟨v,E,rfl,M,C,fG.since H L fun y V g G N=>(C g N).2 y V G⟩⟩
 | y::D,l,h=>by
  cases l with
  | nil=>
   have:(y::D)++(k,v)::E=[]:=h
   cases this
  | cons x l=>
   obtain⟨P,X,F,K,C,L⟩:=h;simp only[List.cons_append,List.cons.injEq]at F;obtain⟨rfl,rfl⟩:=F;obtain⟨I,A,J,rfl,S,T,U⟩:=fG.split D L;exact⟨x::I,A,J,rfl,S,T,fun B w' M H=>⟨P,D++(k,v)::E,rfl,K.since H (fun g G N=>(C g G).2 (k,v) (by simp) N),C,U B w' M H⟩⟩
theorem aX.setVis{E:RC}{G:bC}{r:RS}{V:RV}{w:World}(h:aX E G r V w){Q U:List (Int×Value)}{k:Int}{v:Value}(P:V.vals=Q++(k,v)::U):
 ∃J H L,r.aR=J++(k,H)::L/\aK w E.base 3 1 v H.length (iB H) /\
  ∀B w',aK w' E.base 3 1 v B.length (iB B)->aF (fun g=>v.ownBlock=some g) w w'->aX E G { r with aR:=J++(k,B)::L } V w':=by
 have O:=h.aR;rw[P]at O;obtain⟨J,H,L,e,D,R,S⟩:=fG.split Q O;refine⟨J,H,L,e,D,fun B w' T A=>?_⟩;have I:∀{K:Type} [DecidableEq K] {KK:oW K}{q:Nat}{m:List (K×Value)},bA KK w q m->bA KK w' q m:=fun N=>N.since A (fun M=>N.jl D M)
 refine⟨h.blk.since A (fun M=>D.cB h.blk (by decide) M),I h.gl,I h.fl,I h.kn,I h.vi,?_,h.ds.since A (fun g F C=>h.ds.apart D (by decide) g F C),h.us.since A (fun g F C=>R g C F),h.ps.since A (fun g F C=>h.ps.apart D (by decide) g F C),h.low,h.apart⟩;rw[P];exact S B w' T A
theorem aX.sinceO{E:RC}{G:bC}{r:RS}{V:RV}{w w':World}{S:Nat->Prop}(h:aX E G r V w)(D:aF S w w')(I:∀g N t O,w.heap[g]? =some (.cells N t O)->¬S g)(P:∀g M L,w.heap[g]? =some (.map M L)->¬S g):aX E G r V w':=by
 have F:∀{K:Type} [DecidableEq K] {KK:oW K}{q:Nat}{m:List (K×Value)},bA KK w q m->bA KK w' q m:=fun B=>B.since D (fun H=>by
  obtain⟨M,L,J⟩:=B.isMap
  exact P _ _ _ J H)
 have A:∀{e size v n xs},aK w E.base e size v n xs->aK w' E.base e size v n xs:=fun B=>B.since D (fun g C H=>by
  obtain⟨cur,J⟩:=B.obj g C
  exact I _ _ _ _ J H)
 exact⟨h.blk.since D (I _ _ _ _ h.blk),F h.gl,F h.fl,F h.kn,F h.vi,fG.of_block h.aR fun g cur C _=>D.block g (aae.1 C).1 (I _ _ _ _ C),A h.ds,A h.us,A h.ps,h.low,h.apart⟩
theorem nz.obj{K:Type}[DecidableEq K]{KK:oW K}{w:World}{r b:Nat}{m:List (K×Value)}{left:List (Value×Value)}(h:nz KK w r b m left):∃a c d e,w.heap[b]? =some (.mapIter a c d e):=by
 obtain⟨E,A,B,D,-,-,-,-,C,-⟩:=h;exact⟨_,_,_,_,C⟩
theorem QJ{A:Type}{F:A->A}{l:List A}{i:Nat}{u:A}(h:l[i]? =some u):((l.take i).map F++l.drop i)[i]? =some u/\((l.take i).map F++l.drop i).set i (F u)=(l.take (i+1)).map F++l.drop (i+1):=by
 obtain⟨B,E⟩:=aah.1 h;have D:((l.take i).map F).length=i:=by simp;omega
 have C:l.drop i=u::l.drop (i+1):=by rw[List.drop_eq_getElem_cons B,E]
 constructor
 ·rw[aal (by omega),D,Nat.sub_self,C]
  rfl
 ·rw[List.set_append_right _ _ (by omega),D,Nat.sub_self,C,zh h]
  simp
theorem vU{K V:Type}[DecidableEq K](l:List (K×V))(k:K)(v:V)(B:(l.map (·.1)).Nodup):((dh l k v).map (·.1)).Nodup:=by
 by_cases A:k∈l.map (·.1)
 ·have:(dh l k v).map (·.1)=l.map (·.1):=by
   clear B
   induction l with
   | nil=>cases A
   | cons x l ih=>
    rw[dh];by_cases h:k=x.1
    ·rw[if_pos h,List.map_cons,List.map_cons,h]
    ·rw[if_neg h,List.map_cons,List.map_cons]
     rw[List.map_cons,List.mem_cons]at A;rw[ih (A.resolve_left h)]
  rw[this];exact B
 ·have:dh l k v=l++[(k,v)]:=Gg v A
  rw[this,List.map_append,List.nodup_append];refine⟨B,by simp,fun a D b C=>?_⟩;simp at C;subst C;exact fun e=>A (e ▸ D)
theorem XC:CQ fun a b=>(a.aR.map (·.1)).Nodup->(b.aR.map (·.1)).Nodup where
 refl:=fun _ h=>h
 trans:=fun h k q=>k (h q)
 none_:=fun r i v h=>by
  unfold aG;cases i
  ·exact h
  ·exact vU _ _ _ h
 say:=fun r i v c t h=>by
  unfold qF aG;cases i
  ·exact h
  ·exact vU _ _ _ h
 decl:=fun r i v c t h=>by
  unfold lM aG;cases i
  ·exact h
  ·exact vU _ _ _ h
 use:=fun r i v k h=>by
  unfold aG;cases i
  ·exact h
  ·exact vU _ _ _ h
 owner:=fun r o h=>h
theorem Wu(G:bC)(t:ae)(i:Bool)(s:aS)(r:RS)(h:(r.aR.map (·.1)).Nodup):((aM G i t s r).1.aR.map (·.1)).Nodup:=zg XC G t i s r h
def Bf(F:Int->Int)(f:Int->Bool)(l:List (Int×List Int)):List (Int×List Int):=l.map fun x=>(x.1,if f x.1 then x.2 else x.2.map F)
theorem Y1{F:Int->Int}{f:Int->Bool}{l H I:List (Int×List Int)}{k:Int}{D:List Int}(G:(l.map (·.1)).Nodup)(h:Bf F f l=H++(k,D)::I)(Q:f k=true):
 Bf F (fun j=>f j&&decide (j≠k)) l=H++(k,D.map F)::I:=by
 unfold Bf at h⊢;obtain⟨J,S,rfl,N,O⟩:=List.map_eq_append_iff.1 h;obtain⟨y,K,rfl,E,P⟩:=List.map_eq_cons_iff.1 O;have C:y.1=k:=congrArg Prod.fst E
 have B:y.2=D:=by
  have:=congrArg Prod.snd E;simp only[C,Q,if_true]at this;exact this
 rw[List.map_append,List.map_cons,List.nodup_append]at G;obtain⟨-,A,R⟩:=G;rw[List.nodup_cons]at A;rw[List.map_append,List.map_cons,<- N,<- P]
 have L:(J.map fun x=>(x.1,if (f x.1&&decide (x.1≠k))=true then x.2 else x.2.map F))=J.map fun x=>(x.1,if f x.1=true then x.2 else x.2.map F):=by
  refine List.map_congr_left fun x B=>?_
  have:x.1≠k:=fun e=>R x.1 (List.mem_map.2 ⟨x,B,rfl⟩) y.1 (by simp) (by rw[e,C])
  rw[decide_eq_true this,Bool.and_true]
 have M:(K.map fun x=>(x.1,if (f x.1&&decide (x.1≠k))=true then x.2 else x.2.map F))=K.map fun x=>(x.1,if f x.1=true then x.2 else x.2.map F):=by
  refine List.map_congr_left fun x B=>?_
  have:x.1≠k:=fun e=>A.1 (by rw[C,<- e];exact List.mem_map.2 ⟨x,B,rfl⟩)
  rw[decide_eq_true this,Bool.and_true]
 rw[L,M];congr 2
 rw[C,B];simp
theorem visP_end{F:Int->Int}{f:Int->Bool}{l:List (Int×List Int)}(h:∀k∈l.map (·.1),f k=false):Bf F f l=l.map fun x=>(x.1,x.2.map F):=by
 unfold Bf;refine List.map_congr_left fun x A=>?_
 rw[h x.1 (List.mem_map.2 ⟨x,A,rfl⟩)];rfl
theorem Wx(F:Int->Int)(l:List (Int×List Int)):Bf F (fun _=>true) l=l:=by
 unfold Bf;simp
end Go.Proofs.YtoepemlnlpamlaaGreat
