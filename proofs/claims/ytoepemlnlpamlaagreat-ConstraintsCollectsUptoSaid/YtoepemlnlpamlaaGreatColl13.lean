/- Collect agrees with the reference. Part 13: ColQ ColR6 ColR7 ColR8 ColR9 ColRA ColP1 ColP2 ColP3 ColP4 ColX. -/
import Derived.Test.YtoepemlnlpamlaaGreatColl12
set_option maxRecDepth 100000
set_option maxHeartbeats 4000000
namespace Go.Proofs.YtoepemlnlpamlaaGreat
open Go.RowKit
structure SQ (E:CE) (C:CM) (B:Nat) (w:World) (cs:Array Value) (o:List bD) (q:Nat) (W:World):Prop where
 rc:kD E o W
 cx:CX E.base E.cb w W
 bx:ah W w.heap.size 24 cs
 rh:RH E C B W
 cb:E.cb<w.heap.size
 base:E.base<=w.heap.size
 len:o.length<=q
section
variable {E:CE}{C:CM}{B:Nat}{w W:World}{cs:Array Value}{o:List bD}{q:Nat}
theorem SQ.below(h:SQ E C B w cs o q W){w':World}(A:Below W.heap.size W w'):SQ E C B w cs o q w':=
 ⟨h.rc.below A,h.cx.trans (CX.of_below A),h.bx.below A h.bx.lt,h.rh.cx (CX.of_below A),h.cb,h.base,h.len⟩
theorem SQ.step(h:SQ E C B w cs o q W){w':World}{D:List bD}{F:Nat}(H:kD E D w')(A:CX E.base E.cb W w')(G:D.length<=F):SQ E C B w cs D F w':=
 ⟨H,h.cx.trans A,A.blk h.bx (by decide) (by have:=h.cb;omega),h.rh.cx A,h.cb,h.base,G⟩
theorem SQ.le(h:SQ E C B w cs o q W):E.base<=W.heap.size:=aca h.base h.cx.size
theorem uI(h:SQ E C B w cs o q W){n i m:Nat}{t:ae}(I:C.N[n]? =some t)(F:i<=t.kids.length)(H:n+aB t<=200000)(G:n+1+aC (t.kids.take i)=m):
 Calls Tryz.prog 114 #[.pointer (some ⟨E.cb,0,none⟩),.int .i64 (n:Int),.int .i64 (i:Int)] W fun e w'=>e= .returned (.int .i64 (m:Int))/\SQ E C B w cs o q w':=by
 subst G;exact(xS E C B o W h.rc h.rh n i t I F H).mono fun e w' ⟨A,D⟩=>⟨A,h.below D⟩
theorem jY(h:SQ E C B w cs o q W)(k:Int):Calls Tryz.prog 117 #[.int .i64 k] W fun e w'=>e= .returned (.agg #[.int .i64 k,.int .i64 0,.string ⟨#[]⟩])/\SQ E C B w cs o q w':=
 (yK k W).mono fun e w' ⟨A,D⟩=>⟨A,h.below D⟩
theorem kV(h:SQ E C B w cs o q W)(J:q<=1000000){m:Nat}{y:ae}(K:C.N[m]? =some y)(v A D:Int)(F:ByteArray):
 Calls Tryz.prog 116 #[.pointer (some ⟨E.cb,0,none⟩),.int .i64 v,.agg #[.int .i64 A,.int .i64 D,.string F],.int .i64 (m:Int)] W fun e w'=>e= .returned (.tuple #[])/\SQ E C B w cs (o++[fV v A D F y]) (q+1) w':=
 (yX E o W h.rc (aca h.len J) h.le v A D F C.N B h.rh.nd h.rh.bw h.rh.nn m y K).mono fun e w' ⟨G,H,I⟩=>⟨G,h.step H I (by rw[acm];have:=h.len;simp;omega)⟩
theorem xO(h:SQ E C B w cs o q W)(G:q<=1000000){m:Nat}{y:ae}(H:C.N[m]? =some y)(v u:Int):
 Calls Tryz.prog 115 #[.pointer (some ⟨E.cb,0,none⟩),.int .i64 v,.int .i64 u,.int .i64 (m:Int)] W fun e w'=>e= .returned (.tuple #[])/\SQ E C B w cs (o++[j4 v u y]) (q+1) w':=
 (Eu E o W h.rc (aca h.len G) h.le v u C.N B h.rh.nd h.rh.bw h.rh.nn m y H).mono fun e w' ⟨A,D,F⟩=>⟨A,h.step D F (by rw[acm];have:=h.len;simp;omega)⟩
theorem Ii(C:CM)(n:Nat)(y:ae):(xG C n y).length<=1:=by
 unfold xG;cases mG C.nm y<;>simp[Tx]
theorem Er(h:SQ E C B w cs o q W)(G:q<=1000000){m:Nat}{y:ae}(H:C.N[m]? =some y)(n:Nat):
 Calls Tryz.prog 113 #[.pointer (some ⟨E.cb,0,none⟩),.int .i64 (n:Int),.int .i64 (m:Int)] W fun e w'=>e= .returned (.tuple #[])/\SQ E C B w cs (o++xG C n y) (q+1) w':=
 (PW E C B o W h.rc h.rh h.le n m y H (aca h.len G)).mono fun e w' ⟨A,D,F⟩=>⟨A,h.step D F (by rw[acm];have:=h.len;have:=Ii C n y;omega)⟩
theorem Dz(t:ae)(n:Nat)(k:Int):(nA t n k).length=t.kids.length:=by simp[nA]
theorem CB(h:SQ E C B w cs o q W){n:Nat}{t:ae}(A:∀(j:Nat) (y:ae),(aM t)[j]? =some y->C.N[n+j]? =some y)(H:n+aB t<=200000)(I:q+t.kids.length<=1000000)(k:Int):
 Calls Tryz.prog 121 #[.pointer (some ⟨E.cb,0,none⟩),.int .i64 (n:Int),.int .i64 k] W fun e w'=>e= .returned (.tuple #[])/\SQ E C B w cs (o++nA t n k) (q+t.kids.length) w':=
 (Fz E C B o W h.rc h.rh h.le n t A H (by have:=h.len;omega) k).mono fun e w' ⟨D,F,G⟩=>⟨D,h.step F G (by rw[acm,Dz];have:=h.len;omega)⟩
theorem tV(h:SQ E C B w cs o q W){n:Nat}(G:IB C n){d:Option Dc}(F:oW C n=d):
 Calls Tryz.prog 118 #[.pointer (some ⟨E.cb,0,none⟩),.int .i64 (n:Int)] W fun e w'=>e= .returned (.int .i64 (d.elim (-1) Dc.node))/\SQ E C B w cs o q w':=by
 subst F;exact(XK E C B o W h.rc h.rh n G).mono fun e w' ⟨A,D⟩=>⟨A,D ▸ h⟩
end
structure yD (C:CM):Prop where
 len:C.N.length<=200000
 ul:C.us.length=C.N.length
 sh:∀y∈C.N,dJ y=true
 sub:∀(m:Nat) (z:ae),C.N[m]? =some z->(∀(j:Nat) (y:ae),(aM z)[j]? =some y->C.N[m+j]? =some y)/\m+aB z<=200000
 use:∀(i:Nat) (u:Int) (y:ae),C.us[i]? =some u->C.N[i]? =some y->u= -1\/∃(j m:Nat) (d:Dc) (z:ae),u=(j:Int)/\C.ds[j]? =some d/\d.node=(m:Int)/\C.N[m]? =some z/\(d.kind=0↔z.kind=3)/\(y.kind=27->d.name=y.text/\(z.kind=3\/z.kind=5))/\(y.kind=19->z.kind=5)/\(y.kind=22->uT C.N d.owner)
theorem yD.used{C:CM}(h:yD C){n:Nat}{t:ae}(J:C.N[n]? =some t):IB C n/\(oW C n=none\/∃(q m:Nat) (d:Dc) (z:ae),oW C n=some d/\C.us[n]? =some (q:Int)/\C.ds[q]? =some d/\d.node=(m:Int)/\C.N[m]? =some z/\Ad C d.node=z/\dJ z=true/\(d.kind=0↔z.kind=3)/\(t.kind=27->d.name=t.text/\(z.kind=3\/z.kind=5))/\(t.kind=19->z.kind=5)/\(t.kind=22->uT C.N d.owner)):=by
 have H:n<C.us.length:=by rw[h.ul];exact(acg.1 J).1
 have A:C.us[n]? =some C.us[n]:=ace H;rcases h.use n _ t A J with D| ⟨j,m,d,z,D,F,I,G,K,L,M,O⟩
 ·rw[D]at A
  have P:IB C n:=⟨-1,A,.inl rfl⟩
  refine⟨P,.inl ?_⟩;unfold oW;rw[A];rfl
 rw[D]at A;refine⟨⟨_,A,.inr ⟨j,d,rfl,F⟩⟩,.inr ⟨j,m,d,z,?_,A,F,I,G,?_,h.sh z (acn G),K,L,M,O⟩⟩
 ·unfold oW
  rw[A];show(if (j:Int)<0 then none else C.ds[(j:Int).toNat]?)=some d;rw[if_neg (by omega)];exact F
 unfold Ad;rw[I,List.getD_eq_getElem?_getD];show(C.N[m]?).getD tz=z;rw[G];rfl
theorem KH{k:Int}{sh:uM}(h:jB k=some sh):k=0\/k=2\/k=3\/k=4\/k=5\/k=6\/k=7\/k=8\/k=9\/k=10\/k=11\/k=12\/k=13\/k=14\/k=15\/k=16\/k=17\/k=18\/k=19\/k=20\/k=21\/k=22\/k=23\/k=24\/k=25\/k=26\/k=27\/k=28\/k=29:=by
 cases k with
 | negSucc n=>cases h
 | ofNat n=>
  have A:lT n=some sh:=h
  have:n=0\/2<=n/\n<=29:=by
   unfold lT at A;split at A<;>first|(cases A;done)|omega
  have D:(Int.ofNat n)=(n:Int):=rfl;rw[D];omega
def abN(C:CM)(t:ae)(p:Nat)(res:Int):Prop:=t.kind=17->∃z,C.N[p]? =some z/\z.kind=5/\res=if (kd z 1).kind≠0 then(p:Int) else -1
def gX(E:CE)(C:CM)(out:List bD)(w:World)(t:ae)(n p:Nat)(res:Int):Prop:=
 Calls Tryz.prog 63 #[.pointer (some ⟨E.cb,0,none⟩),.int .i64 (n:Int),.int .i64 (p:Int)] w fun e w'=>e= .returned (.tuple #[])/\kD E (out++bH C t n res) w'/\CX E.base E.cb w w'
structure Hm (E:CE) (C:CM) (B:Nat) (out:List bD) (w:World) (t:ae) (n:Nat):Prop where
 rc:kD E out w
 rh:RH E C B w
 base:E.base<=w.heap.size
 cx:yD C
 at_:C.N[n]? =some t
 ob:out.length+t.kids.length+8<=1000000
structure PF (C:CM) (t:ae) (n l:Nat) (k:Int) (x:ByteArray) (m:Nat):Prop where
 ht:C.N[n]? =some t
 pos:∀(j:Nat) (y:ae),(aM t)[j]? =some y->C.N[n+j]? =some y
 bd:n+aB t<=200000
 ob:l+t.kids.length+8<=1000000
 sh:dJ t=true
 hk:t.kind=k
 hx:t.text=x
 hm:t.kids.length=m
section
variable {C:CM}{t:ae}{n l:Nat}{k:Int}{x:ByteArray}{m:Nat}
theorem PF.y0(h:PF C t n l k x m)(A:0<t.kids.length):C.N[n+1]? =some (kd t 0)/\nk t n 0=((n+1:Nat):Int):=by
 have D:=DJ A h.pos;have F:=KU A n;simp only[List.take_zero,aC,Nat.add_zero]at D F;exact⟨D,F⟩
theorem PF.y1(h:PF C t n l k x m)(A:1<t.kids.length):C.N[n+1+aC (t.kids.take 1)]? =some (kd t 1)/\nk t n 1=((n+1+aC (t.kids.take 1):Nat):Int):=⟨DJ A h.pos,KU A n⟩
theorem PF.num(h:PF C t n l k x m){sh:uM}(D:jB k=some sh)(A:sh.list=none):t.kids.length=sh.kids.length:=gV h.sh (by rw[h.hk];exact D) A
end
theorem Hm.pre{E:CE}{C:CM}{B:Nat}{out:List bD}{w:World}{t:ae}{n:Nat}(h:Hm E C B out w t n):∃(A D:Nat) (T:Option Addr) (c:Nat) (k:Int) (x:ByteArray) (a z:Int) (m:Nat) (F:World),
 w.alloc (.cells #[.int .i64 k,.string x,.int .i64 a,.int .i64 z,.slice T m c] 24)=F/\t.kind=k /\
 (w.cell? ⟨E.cb,0,none⟩=some (.slice (some ⟨A,D,none⟩) E.rn E.rc)/\w.cell? ⟨A,D+n*5,none⟩=some (.int .i64 k)/\w.cell? ⟨A,D+n*5+1,none⟩=some (.string x)/\w.cell? ⟨A,D+n*5+2,none⟩=some (.int .i64 a)/\w.cell? ⟨A,D+n*5+3,none⟩=some (.int .i64 z)/\w.cell? ⟨A,D+n*5+4,none⟩=some (.slice T m c)/\E.cb<w.heap.size/\(n:Int)<(E.rn:Int)/\A<w.heap.size) /\
 (F.cell? ⟨w.heap.size,0,none⟩=some (.int .i64 k)/\F.cell? ⟨w.heap.size,1,none⟩=some (.string x)/\F.cell? ⟨w.heap.size,4,none⟩=some (.slice T m c)/\w.heap.size<F.heap.size) /\
 IntKind.i64.wrap ((n:Int)+1)=(n:Int)+1 /\
 Hid (SQ E C B w #[.int .i64 k,.string x,.int .i64 a,.int .i64 z,.slice T m c] out out.length F)/\Hid (PF C t n out.length k x m)/\Hid (aD w B T 0 t.kids):=by
 obtain⟨H,S⟩:=h.cx.sub n t h.at_;obtain⟨A,D,T,c,R,J,M,N,O,P,Q,V⟩:=kZ h.rh.nd h.at_;have L:w.cell? ⟨E.cb,0,none⟩=some (.slice (some ⟨A,D,none⟩) E.rn E.rc):=by obtain⟨U,X,I,-⟩:=h.rc;rw[<- R];exact I.cell 0
 have lc:E.cb<w.heap.size:=by obtain⟨U,X,I,-⟩:=h.rc;exact I.lt
 have K:(n:Int)<(E.rn:Int):=by rw[<- h.rh.nn];have:=(acg.1 h.at_).1;omega
 have G:=ah.new w 24 #[.int .i64 t.kind,.string t.text,.int .i64 t.at_,.int .i64 t.end_,.slice T t.kids.length c];exact⟨A,D,T,c,t.kind,t.text,t.at_,t.end_,t.kids.length,_,rfl,rfl,⟨L,M,N,O,P,Q,lc,K,Nat.lt_of_lt_of_le J h.rh.bw⟩,⟨G.cell 0,G.cell 1,G.cell 4,G.lt⟩,IntWalk.i64_in _ (by have:=jk t;omega),kH ⟨h.rc.below (ai _ _),CX.of_below (ai _ _),G,h.rh.cx (CX.of_below (ai _ _)),lc,h.base,ab9 _⟩,kH ⟨h.at_,H,S,h.ob,h.cx.sh t (acn h.at_),rfl,rfl,rfl⟩,kH V⟩
section
variable {E:CE}{C:CM}{B:Nat}{out:List bD}{w:World}{t:ae}{n:Nat}(h:Hm E C B out w t n) (p:Nat) (res:Int)
include h
theorem aak(H:t.kind=0\/t.kind=2\/t.kind=3\/t.kind=6\/t.kind=9\/t.kind=10\/t.kind=11):gX E C out w t n p res:=by
 obtain⟨Z,y,T,c,k,x,a,z,m,M,G,D,⟨R,S,U,V,X,Y,lc,K,J⟩,⟨N,O,P,Q⟩,L,A,I,-⟩:=h.pre;unfold gX;rw[D]at H;clear h D;rcases H with rfl|rfl|rfl|rfl|rfl|rfl|rfl
 all_goals
  rw[show bH C t n res=[] by unfold bH gL;rw[I.out.hk];rfl];go_in
  go_wp2_with (rw[G])
  go_end0
  exact⟨rfl,by have F:=A.out.rc;first|exact F|(simp only[List.append_assoc,List.cons_append,List.nil_append,List.append_nil]at F⊢;exact F),A.out.cx⟩
theorem aag(L:t.kind=4\/t.kind=7\/t.kind=8):gX E C out w t n p res:=by
 obtain⟨u,r,T,c,k,x,a,z,m,v,F,G,⟨Q,R,S,U,V,X,lc,Y,J⟩,⟨M,N,O,P⟩,Z,I,H,-⟩:=h.pre;unfold gX;rw[G]at L;clear h G;rcases L with rfl|rfl|rfl
 all_goals
  have A:=H.out.y0 (by rw[H.out.num (by rfl) rfl];decide);rw[show bH C t n res=xG C n (kd t 0) by unfold bH gL;rw[H.out.hk,A.2];rfl];have y:=kH A;clear A;go_in
  go_wp2_with (rw[F])
  refine(Er I.out (by have:=H.out.ob;omega) y.out.1 n).mono ?_;rintro e j ⟨rfl,D⟩;have K:=kH D;clear D Q R S U V X lc J F M N O P;go_wp2_with fail
  go_end0
  exact⟨rfl,by have D:=K.out.rc;first|exact D|(simp only[List.append_assoc,List.cons_append,List.nil_append,List.append_nil]at D⊢;exact D),K.out.cx⟩
theorem XL(P:t.kind=5):gX E C out w t n p res:=by
 obtain⟨d,b,T,c,k,x,a,z,m,f,I,J,⟨Y,Z,y,v,u,r,lc,j,L⟩,⟨R,S,U,X⟩,g,K,A,-⟩:=h.pre;unfold gX;rw[J]at P;clear h J;subst P;have H:=A.out.y0 (by rw[A.out.num (by rfl) rfl];decide);have F:=A.out.y1 (by rw[A.out.num (by rfl) rfl];decide);obtain⟨Q, G⟩:=ag (n+1+aC (t.kids.take 1));rw[G]at F;rw[show bH C t n res=xG C n (kd t 1) by unfold bH gL;rw[A.out.hk,H.2,F.2];rfl];have zB:=kH H;have M:Hid (C.N[Q]? =some (kd t 1)/\n+1+aC (t.kids.take 1)=Q/\1<=t.kids.length):=kH ⟨F.1,G,by rw[A.out.num (by rfl) rfl];decide⟩;clear H F G;go_in
 go_wp2_with (rw[I])
 refine(uI (i:=1) K.out A.out.ht M.out.2.2 A.out.bd M.out.2.1).mono ?_;rintro e w1 ⟨rfl,D⟩;have V:=kH D;clear D Y Z y v u r lc L I R S U X;go_wp2_with fail
 refine(Er V.out (by have:=A.out.ob;omega) M.out.1 n).mono ?_;rintro e w2 ⟨rfl,D⟩;have O:=kH D;clear D;go_wp2_with fail
 go_end0
 exact⟨rfl,by have D:=O.out.rc;first|exact D|(simp only[List.append_assoc,List.cons_append,List.nil_append,List.append_nil]at D⊢;exact D),O.out.cx⟩
theorem aah(P:t.kind=12):gX E C out w t n p res:=by
 obtain⟨gb,go,T,c,k,x,a,z,m,b,I,J,⟨Y,Z,y,v,u,r,lc,g,M⟩,⟨R,S,U,X⟩,f,L,D,-⟩:=h.pre;unfold gX;rw[J]at P;clear h J;subst P;have H:=D.out.y0 (by rw[D.out.num (by rfl) rfl];decide);have F:=D.out.y1 (by rw[D.out.num (by rfl) rfl];decide);obtain⟨K, G⟩:=ag (n+1+aC (t.kids.take 1));rw[G]at F;rw[show bH C t n res=xG C n (kd t 0)++[j4 n (K:Int) t] by unfold bH gL;rw[D.out.hk,H.2,F.2];rfl];have d:=kH H;have Q:Hid (C.N[K]? =some (kd t 1)/\n+1+aC (t.kids.take 1)=K/\1<=t.kids.length):=kH ⟨F.1,G,by rw[D.out.num (by rfl) rfl];decide⟩;clear H F G;go_in
 go_wp2_with (rw[I])
 refine(Er L.out (by have:=D.out.ob;omega) d.out.1 n).mono ?_;rintro e w1 ⟨rfl,A⟩;have V:=kH A;clear A Y Z y v u r lc M I R S U X;go_wp2_with fail
 refine(uI (i:=1) V.out D.out.ht Q.out.2.2 D.out.bd Q.out.2.1).mono ?_;rintro e w2 ⟨rfl,A⟩;have j:=kH A;clear A;go_wp2_with fail
 refine(xO j.out (by have:=D.out.ob;omega) D.out.ht (n:Int) (K:Int)).mono ?_;rintro e w3 ⟨rfl,A⟩;have O:=kH A;clear A;go_wp2_with fail
 go_end0
 exact⟨rfl,by have A:=O.out.rc;first|exact A|(simp only[List.append_assoc,List.cons_append,List.nil_append,List.append_nil]at A⊢;exact A),O.out.cx⟩
theorem aap(P:t.kind=13):gX E C out w t n p res:=by
 obtain⟨b,go,T,c,k,x,a,z,m,d,I,J,⟨Y,Z,y,v,u,r,lc,g,M⟩,⟨R,S,U,X⟩,f,L,A,-⟩:=h.pre;unfold gX;rw[J]at P;clear h J;subst P;have H:=A.out.y0 (by rw[A.out.num (by rfl) rfl];decide);have F:=A.out.y1 (by rw[A.out.num (by rfl) rfl];decide);obtain⟨K, G⟩:=ag (n+1+aC (t.kids.take 1));rw[G]at F;rw[show bH C t n res=[j4 ((n+1:Nat):Int) (K:Int) t] by unfold bH gL;rw[A.out.hk,H.2,F.2];rfl];have zB:=kH H;have Q:Hid (C.N[K]? =some (kd t 1)/\n+1+aC (t.kids.take 1)=K/\1<=t.kids.length):=kH ⟨F.1,G,by rw[A.out.num (by rfl) rfl];decide⟩;clear H F G;go_in
 go_wp2_with (rw[I])
 refine(uI (i:=0) (m:=n+1) L.out A.out.ht (Nat.zero_le _) A.out.bd (by simp[aC])).mono ?_;rintro e w1 ⟨rfl,D⟩;have V:=kH D;clear D Y Z y v u r lc M I R S U X;go_wp2_with fail
 refine(uI (i:=1) V.out A.out.ht Q.out.2.2 A.out.bd Q.out.2.1).mono ?_;rintro e w2 ⟨rfl,D⟩;have j:=kH D;clear D;go_wp2_with fail
 refine(xO j.out (by have:=A.out.ob;omega) A.out.ht ((n+1:Nat):Int) (K:Int)).mono ?_;rintro e w3 ⟨rfl,D⟩;have O:=kH D;clear D;go_wp2_with fail
 go_end0
 exact⟨rfl,by have D:=O.out.rc;first|exact D|(simp only[List.append_assoc,List.cons_append,List.nil_append,List.append_nil]at D⊢;exact D),O.out.cx⟩
theorem rcol_if(O:t.kind=14):gX E C out w t n p res:=by
 obtain⟨d,b,T,c,k,x,a,z,m,f,I,J,⟨X,Y,Z,y,v,u,lc,r,L⟩,⟨Q,R,S,V⟩,j,K,F,-⟩:=h.pre;unfold gX;rw[J]at O;clear h J;subst O;have H:=F.out.y0 (by rw[F.out.num (by rfl) rfl];decide);have D:=F.out.y1 (by rw[F.out.num (by rfl) rfl];decide);obtain⟨P, G⟩:=ag (n+1+aC (t.kids.take 1));rw[G]at D;rw[show bH C t n res=[fV ((n+1:Nat):Int) 2 0 ⟨#[]⟩ (kd t 0)] by unfold bH gL;rw[F.out.hk,H.2,D.2];rfl];have g:=kH H;have p8:Hid (C.N[P]? =some (kd t 1)/\n+1+aC (t.kids.take 1)=P/\1<=t.kids.length):=kH ⟨D.1,G,by rw[F.out.num (by rfl) rfl];decide⟩;clear H D G;go_in
 go_wp2_with (rw[I])
 refine(jY K.out 2).mono ?_;rintro e w1 ⟨rfl,A⟩;have U:=kH A;clear A X Y Z y v u lc L I Q R S V;go_wp2_with fail
 refine(kV U.out (by have:=F.out.ob;omega) g.out.1 ((n+1:Nat):Int) 2 0 ⟨#[]⟩).mono ?_;rintro e w2 ⟨rfl,A⟩;have M:=kH A;clear A;go_wp2_with fail
 go_end0
 exact⟨rfl,by have A:=M.out.rc;first|exact A|(simp only[List.append_assoc,List.cons_append,List.nil_append,List.append_nil]at A⊢;exact A),M.out.cx⟩
theorem U9(O:t.kind=15):gX E C out w t n p res:=by
 obtain⟨d,b,T,c,k,x,a,z,m,f,I,J,⟨X,Y,Z,y,v,u,lc,r,L⟩,⟨Q,R,S,V⟩,j,K,F,-⟩:=h.pre;unfold gX;rw[J]at O;clear h J;subst O;have H:=F.out.y0 (by rw[F.out.num (by rfl) rfl];decide);have D:=F.out.y1 (by rw[F.out.num (by rfl) rfl];decide);obtain⟨P, G⟩:=ag (n+1+aC (t.kids.take 1));rw[G]at D;rw[show bH C t n res=[fV ((n+1:Nat):Int) 2 0 ⟨#[]⟩ (kd t 0)] by unfold bH gL;rw[F.out.hk,H.2,D.2];rfl];have g:=kH H;have p8:Hid (C.N[P]? =some (kd t 1)/\n+1+aC (t.kids.take 1)=P/\1<=t.kids.length):=kH ⟨D.1,G,by rw[F.out.num (by rfl) rfl];decide⟩;clear H D G;go_in
 go_wp2_with (rw[I])
 refine(jY K.out 2).mono ?_;rintro e w1 ⟨rfl,A⟩;have U:=kH A;clear A X Y Z y v u lc L I Q R S V;go_wp2_with fail
 refine(kV U.out (by have:=F.out.ob;omega) g.out.1 ((n+1:Nat):Int) 2 0 ⟨#[]⟩).mono ?_;rintro e w2 ⟨rfl,A⟩;have M:=kH A;clear A;go_wp2_with fail
 go_end0
 exact⟨rfl,by have A:=M.out.rc;first|exact A|(simp only[List.append_assoc,List.cons_append,List.nil_append,List.append_nil]at A⊢;exact A),M.out.cx⟩
theorem SL(L:t.kind=18):gX E C out w t n p res:=by
 obtain⟨r,j,T,c,k,x,a,z,m,u,F,G,⟨R,S,U,V,X,Y,lc,Z,J⟩,⟨M,N,O,Q⟩,y,I,H,-⟩:=h.pre;unfold gX;rw[G]at L;clear h G;subst L;have D:=H.out.y0 (by rw[H.out.num (by rfl) rfl];decide);rw[show bH C t n res=[fV ((n+1:Nat):Int) 2 0 ⟨#[]⟩ (kd t 0)] by unfold bH gL;rw[H.out.hk,D.2];rfl];have v:=kH D;clear D;go_in
 go_wp2_with (rw[F])
 refine(jY I.out 2).mono ?_;rintro e g ⟨rfl,A⟩;have P:=kH A;clear A R S U V X Y lc J F M N O Q;go_wp2_with fail
 refine(kV P.out (by have:=H.out.ob;omega) v.out.1 ((n+1:Nat):Int) 2 0 ⟨#[]⟩).mono ?_;rintro e f ⟨rfl,A⟩;have K:=kH A;clear A;go_wp2_with fail
 go_end0
 exact⟨rfl,by have A:=K.out.rc;first|exact A|(simp only[List.append_assoc,List.cons_append,List.nil_append,List.append_nil]at A⊢;exact A),K.out.cx⟩
theorem aan(R:t.kind=16):gX E C out w t n p res:=by
 obtain⟨gb,go,T,c,k,x,a,z,m,W1,J,K,⟨u,r,j,g,f,d,lc,a1,Q⟩,⟨V,X,Y,v⟩,a6,O,D,-⟩:=h.pre;unfold gX;rw[K]at R;clear h K;subst R;have I:=D.out.y0 (by rw[D.out.num (by rfl) rfl];decide);have F:=D.out.y1 (by rw[D.out.num (by rfl) rfl];decide);obtain⟨M, H⟩:=ag (n+1+aC (t.kids.take 1));rw[H]at F;rw[show bH C t n res=[fV (n:Int) 1 0 ⟨#[]⟩ t,fV ((n+1:Nat):Int) 1 0 ⟨#[]⟩ (kd t 0),fV (M:Int) 1 0 ⟨#[]⟩ (kd t 1)] by unfold bH gL;rw[D.out.hk,I.2,F.2];rfl];have zB:=kH I;have L:Hid (C.N[M]? =some (kd t 1)/\n+1+aC (t.kids.take 1)=M/\1<=t.kids.length):=kH ⟨F.1,H,by rw[D.out.num (by rfl) rfl];decide⟩;clear I F H;go_in
 go_wp2_with (rw[J])
 refine(jY O.out 1).mono ?_;rintro e w1 ⟨rfl,A⟩;have y:=kH A;clear A u r j g f d lc Q J V X Y v;go_wp2_with fail
 refine(kV y.out (by have:=D.out.ob;omega) D.out.ht (n:Int) 1 0 ⟨#[]⟩).mono ?_;rintro e w2 ⟨rfl,A⟩;have b:=kH A;clear A;go_wp2_with fail
 refine(uI (i:=0) (m:=n+1) b.out D.out.ht (Nat.zero_le _) D.out.bd (by simp[aC])).mono ?_;rintro e w3 ⟨rfl,A⟩;have Z:=kH A;clear A;go_wp2_with fail
 refine(jY Z.out 1).mono ?_;rintro e w4 ⟨rfl,A⟩;have xA:=kH A;clear A;go_wp2_with fail
 refine(uI (i:=0) (m:=n+1) xA.out D.out.ht (Nat.zero_le _) D.out.bd (by simp[aC])).mono ?_;rintro e w5 ⟨rfl,A⟩;have qp:=kH A;clear A;go_wp2_with fail
 refine(kV qp.out (by have:=D.out.ob;omega) zB.out.1 ((n+1:Nat):Int) 1 0 ⟨#[]⟩).mono ?_;rintro e w6 ⟨rfl,A⟩;have iD:=kH A;clear A;go_wp2_with fail
 refine(uI (i:=1) iD.out D.out.ht L.out.2.2 D.out.bd L.out.2.1).mono ?_;rintro e w7 ⟨rfl,A⟩;have U:=kH A;clear A;go_wp2_with fail
 refine(jY U.out 1).mono ?_;rintro e w8 ⟨rfl,A⟩;have S:=kH A;clear A;go_wp2_with fail
 refine(uI (i:=1) S.out D.out.ht L.out.2.2 D.out.bd L.out.2.1).mono ?_;rintro e w9 ⟨rfl,A⟩;have P:=kH A;clear A;go_wp2_with fail
 refine(kV P.out (by have:=D.out.ob;omega) L.out.1 (M:Int) 1 0 ⟨#[]⟩).mono ?_;rintro e eP ⟨rfl,A⟩;have G:=kH A;clear A;go_wp2_with fail
 go_end0
 exact⟨rfl,by have A:=G.out.rc;first|exact A|(simp only[List.append_assoc,List.cons_append,List.nil_append,List.append_nil]at A⊢;exact A),G.out.cx⟩
theorem Va(Q:t.kind=21):gX E C out w t n p res:=by
 obtain⟨gb,go,T,c,k,x,a,z,m,W1,I,J,⟨y,v,u,r,j,g,lc,d,O⟩,⟨S,U,V,Z⟩,b,M,D,-⟩:=h.pre;unfold gX;rw[J]at Q;clear h J;subst Q;have H:=D.out.y0 (by rw[D.out.num (by rfl) rfl];decide);have F:=D.out.y1 (by rw[D.out.num (by rfl) rfl];decide);obtain⟨L, G⟩:=ag (n+1+aC (t.kids.take 1));rw[G]at F;rw[show bH C t n res=[fV ((n+1:Nat):Int) 5 0 ⟨#[]⟩ (kd t 0),fV (L:Int) 1 0 ⟨#[]⟩ (kd t 1),fV (n:Int) 1 0 ⟨#[]⟩ t] by unfold bH gL;rw[D.out.hk,H.2,F.2];rfl];have zB:=kH H;have K:Hid (C.N[L]? =some (kd t 1)/\n+1+aC (t.kids.take 1)=L/\1<=t.kids.length):=kH ⟨F.1,G,by rw[D.out.num (by rfl) rfl];decide⟩;clear H F G;go_in
 go_wp2_with (rw[I])
 refine(jY M.out 5).mono ?_;rintro e w1 ⟨rfl,A⟩;have Y:=kH A;clear A y v u r j g lc O I S U V Z;go_wp2_with fail
 refine(kV Y.out (by have:=D.out.ob;omega) zB.out.1 ((n+1:Nat):Int) 5 0 ⟨#[]⟩).mono ?_;rintro e w2 ⟨rfl,A⟩;have f:=kH A;clear A;go_wp2_with fail
 refine(uI (i:=1) f.out D.out.ht K.out.2.2 D.out.bd K.out.2.1).mono ?_;rintro e w3 ⟨rfl,A⟩;have X:=kH A;clear A;go_wp2_with fail
 refine(jY X.out 1).mono ?_;rintro e w4 ⟨rfl,A⟩;have xA:=kH A;clear A;go_wp2_with fail
 refine(uI (i:=1) xA.out D.out.ht K.out.2.2 D.out.bd K.out.2.1).mono ?_;rintro e w5 ⟨rfl,A⟩;have qp:=kH A;clear A;go_wp2_with fail
 refine(kV qp.out (by have:=D.out.ob;omega) K.out.1 (L:Int) 1 0 ⟨#[]⟩).mono ?_;rintro e w6 ⟨rfl,A⟩;have iD:=kH A;clear A;go_wp2_with fail
 refine(jY iD.out 1).mono ?_;rintro e w7 ⟨rfl,A⟩;have R:=kH A;clear A;go_wp2_with fail
 refine(kV R.out (by have:=D.out.ob;omega) D.out.ht (n:Int) 1 0 ⟨#[]⟩).mono ?_;rintro e w8 ⟨rfl,A⟩;have P:=kH A;clear A;go_wp2_with fail
 go_end0
 exact⟨rfl,by have A:=P.out.rc;first|exact A|(simp only[List.append_assoc,List.cons_append,List.nil_append,List.append_nil]at A⊢;exact A),P.out.cx⟩
theorem aam(K:t.kind=23):gX E C out w t n p res:=by
 obtain⟨g,f,T,c,k,x,a,z,m,j,G,H,⟨S,U,V,X,Y,Z,lc,v,J⟩,⟨M,N,O,R⟩,u,I,F,-⟩:=h.pre;unfold gX;rw[H]at K;clear h H;subst K;have D:=F.out.y0 (by rw[F.out.num (by rfl) rfl];decide);rw[show bH C t n res=[fV ((n+1:Nat):Int) 5 0 ⟨#[]⟩ (kd t 0),fV (n:Int) 1 0 ⟨#[]⟩ t] by unfold bH gL;rw[F.out.hk,D.2];rfl];have r:=kH D;clear D;go_in
 go_wp2_with (rw[G])
 refine(jY I.out 5).mono ?_;rintro e d ⟨rfl,A⟩;have Q:=kH A;clear A S U V X Y Z lc J G M N O R;go_wp2_with fail
 refine(kV Q.out (by have:=F.out.ob;omega) r.out.1 ((n+1:Nat):Int) 5 0 ⟨#[]⟩).mono ?_;rintro e b ⟨rfl,A⟩;have y:=kH A;clear A;go_wp2_with fail
 refine(jY y.out 1).mono ?_;rintro e w3 ⟨rfl,A⟩;have P:=kH A;clear A;go_wp2_with fail
 refine(kV P.out (by have:=F.out.ob;omega) F.out.ht (n:Int) 1 0 ⟨#[]⟩).mono ?_;rintro e w4 ⟨rfl,A⟩;have L:=kH A;clear A;go_wp2_with fail
 go_end0
 exact⟨rfl,by have A:=L.out.rc;first|exact A|(simp only[List.append_assoc,List.cons_append,List.nil_append,List.append_nil]at A⊢;exact A),L.out.cx⟩
theorem aaj(K:t.kind=24):gX E C out w t n p res:=by
 obtain⟨v,u,T,c,k,x,a,z,m,y,D,F,⟨Q,R,S,U,V,X,lc,Y,I⟩,⟨L,M,N,P⟩,Z,H,G,-⟩:=h.pre;unfold gX;rw[F]at K;clear h F;subst K;rw[show bH C t n res=[fV (n:Int) 1 0 ⟨#[]⟩ t] by unfold bH gL;rw[G.out.hk];rfl];go_in
 go_wp2_with (rw[D])
 refine(jY H.out 1).mono ?_;rintro e r ⟨rfl,A⟩;have O:=kH A;clear A Q R S U V X lc I D L M N P;go_wp2_with fail
 refine(kV O.out (by have:=G.out.ob;omega) G.out.ht (n:Int) 1 0 ⟨#[]⟩).mono ?_;rintro e j ⟨rfl,A⟩;have J:=kH A;clear A;go_wp2_with fail
 go_end0
 exact⟨rfl,by have A:=J.out.rc;first|exact A|(simp only[List.append_assoc,List.cons_append,List.nil_append,List.append_nil]at A⊢;exact A),J.out.cx⟩
theorem XP(K:t.kind=25):gX E C out w t n p res:=by
 obtain⟨v,u,T,c,k,x,a,z,m,y,D,F,⟨Q,R,S,U,V,X,lc,Y,I⟩,⟨L,M,N,P⟩,Z,H,G,-⟩:=h.pre;unfold gX;rw[F]at K;clear h F;subst K;rw[show bH C t n res=[fV (n:Int) 2 0 ⟨#[]⟩ t] by unfold bH gL;rw[G.out.hk];rfl];go_in
 go_wp2_with (rw[D])
 refine(jY H.out 2).mono ?_;rintro e r ⟨rfl,A⟩;have O:=kH A;clear A Q R S U V X lc I D L M N P;go_wp2_with fail
 refine(kV O.out (by have:=G.out.ob;omega) G.out.ht (n:Int) 2 0 ⟨#[]⟩).mono ?_;rintro e j ⟨rfl,A⟩;have J:=kH A;clear A;go_wp2_with fail
 go_end0
 exact⟨rfl,by have A:=J.out.rc;first|exact A|(simp only[List.append_assoc,List.cons_append,List.nil_append,List.append_nil]at A⊢;exact A),J.out.cx⟩
end
theorem SQ.node{E:CE}{C:CM}{B:Nat}{w W:World}{cs:Array Value}{o:List bD}{q:Nat}(h:SQ E C B w cs o q W){m:Nat}{y:ae}(H:C.N[m]? =some y):
 ∃A D T c,W.cell? ⟨E.cb,0,none⟩=some (.slice (some ⟨A,D,none⟩) E.rn E.rc)/\W.cell? ⟨A,D+m*5,none⟩=some (.int .i64 y.kind)/\W.cell? ⟨A,D+m*5+1,none⟩=some (.string y.text)/\W.cell? ⟨A,D+m*5+4,none⟩=some (.slice T y.kids.length c)/\aD W B T 0 y.kids/\E.cb<W.heap.size/\A<W.heap.size/\(m:Int)<(E.rn:Int):=by
 obtain⟨A,D,T,c,L,F,I,J,-,-,K,M⟩:=kZ h.rh.nd H;obtain⟨O,P,G,-⟩:=h.rc;exact⟨A,D,T,c,by rw[<- L];exact G.cell 0,I,J,K,M,G.lt,Nat.lt_of_lt_of_le F h.rh.bw,by rw[<- h.rh.nn];have:=(acg.1 H).1;omega⟩
theorem EB{W:World}{B:Nat}{T:Option Addr}{y:ae}(I:aD W B T 0 y.kids){i:Nat}(H:i<y.kids.length)(D:B<=W.heap.size):∃b o,T=some ⟨b,o,none⟩/\b<W.heap.size/\W.cell? ⟨b,o+i*5,none⟩=some (.int .i64 (kd y i).kind):=by
 obtain⟨b,o,U,c,F,G,A,-⟩:=kZ I (gq H);exact⟨b,o,F,Nat.lt_of_lt_of_le G D,A⟩
section
variable {E:CE}{C:CM}{B:Nat}{out:List bD}{w:World}{t:ae}{n:Nat}(h:Hm E C B out w t n) (p:Nat) (res:Int)
include h
theorem XN(Z:t.kind=26):gX E C out w t n p res:=by
 obtain⟨j,g,T,c,k,x,a,z,m,r,F,I,⟨P,Q,R,S,U,V,lc,y,H⟩,⟨N,O,K,L⟩,v,G,D,-⟩:=h.pre;unfold gX;rw[I]at Z;clear h I;subst Z;rw[show bH C t n res=nA t n 1++(if t.kids.length<=8 then [fV n 3 t.kids.length ⟨#[]⟩ t] else []) by unfold bH;rw[D.out.hk];rfl,D.out.hm];by_cases Y:m<=8
 all_goals
  first|rw[if_pos Y]|rw[if_neg Y]
 ·have M:(m:Int)<=8:=by omega
  go_in
  go_wp2_with (rw[F])
  refine(CB G.out D.out.pos D.out.bd (by have:=D.out.ob;omega) 1).mono ?_;rintro e u ⟨rfl,A⟩;have J:=kH A;have K:=A.bx.cell 4;have L:=A.bx.lt;clear A P Q R S U V lc H F N O;go_wp2_with fail
  refine(kV J.out (by have:=D.out.ob;omega) D.out.ht (n:Int) 3 (m:Int) ⟨#[]⟩).mono ?_;rintro e f ⟨rfl,A⟩;have X:=kH A;clear A K L;go_wp2_with fail
  go_end0
  exact⟨rfl,by have A:=X.out.rc;simp only[List.append_assoc]at A⊢;exact A,X.out.cx⟩
 have M:¬(m:Int)<=8:=by omega
 go_in
 go_wp2_with (rw[F])
 refine(CB G.out D.out.pos D.out.bd (by have:=D.out.ob;omega) 1).mono ?_;rintro e u ⟨rfl,A⟩;have J:=kH A;have K:=A.bx.cell 4;have L:=A.bx.lt;clear A P Q R S U V lc H F N O;go_wp2_with fail
 go_end0
 exact⟨rfl,by have A:=J.out.rc;simp only[List.append_nil]at A⊢;exact A,J.out.cx⟩
theorem rcol_un(K:t.kind=28):gX E C out w t n p res:=by
 obtain⟨j,g,T,c,k,x,a,z,m,r,F,G,⟨R,S,U,V,X,Y,lc,v,I⟩,⟨M,N,O,Q⟩,u,H,D,-⟩:=h.pre;unfold gX;rw[G]at K;clear h G;subst K;rw[show bH C t n res=nA t n (Ky t)++[gL n (Ky t) t] by unfold bH;rw[D.out.hk];rfl];obtain⟨b, y⟩:=ag ((x.toList==[110,111,116]));have L:Ky t=if b=true then 2 else 1:=by unfold Ky fP;rw[D.out.hx,y]
 rw[L];clear L;cases b
 all_goals
  try simp only[Bool.false_eq_true,if_false,if_true]
  go_in
  go_wp2_with (rw[F])
  refine(CB H.out D.out.pos D.out.bd (by have:=D.out.ob;omega) _).mono ?_;rintro e f ⟨rfl,A⟩;have P:=kH A;clear A R S U V X Y lc I F M N O Q;go_wp2_with fail
  refine(jY P.out _).mono ?_;rintro e d ⟨rfl,A⟩;have Z:=kH A;clear A;go_wp2_with fail
  refine(kV Z.out (by have:=D.out.ob;omega) D.out.ht (n:Int) _ 0 ⟨#[]⟩).mono ?_;rintro e w3 ⟨rfl,A⟩;have J:=kH A;clear A;go_wp2_with fail
  go_end0
  exact⟨rfl,by have A:=J.out.rc;simp only[List.append_assoc]at A⊢;exact A,J.out.cx⟩
theorem aao(N:t.kind=29):gX E C out w t n p res:=by
 obtain⟨b,go,T,c,k,x,a,z,m,Q,F,H,⟨X,Y,Z,y,v,u,lc,g,I⟩,⟨R,S,U,V⟩,f,A,D,-⟩:=h.pre;unfold gX;rw[H]at N;clear h H;subst N
 have M:jw sj t.text=true:=by
  obtain⟨sh,O,j⟩:=fM D.out.sh;rw[D.out.hk]at O;have r:some _=some sh:=O;cases r
  exact(jg j).1
 rw[show bH C t n res=BF t n by unfold bH;rw[D.out.hk];rfl];have J:t.kids.length=2:=by rw[D.out.num (by rfl) rfl];rfl
 have G:=SN E C B out Q A.out.rc A.out.rh A.out.le n t D.out.pos D.out.bd J M (by have:=D.out.ob;omega);have d:=kH G;clear G M J;go_in
 go_wp2_with (rw[F])
 refine d.out.mono ?_;rintro e w1 ⟨rfl,K,L⟩;have P:=kH (And.intro K (A.out.cx.trans L));clear K L X Y Z y v u lc I F R S U V;go_wp2_with fail
 go_end0
 exact⟨rfl,P.out⟩
theorem XM(r:yD C)(j:t.kind=20):gX E C out w t n p res:=by
 obtain⟨gb,go,T,c,k,x,a,z,m,W1,D,K,⟨U,V,X,Y,Z,v,lc,a1,J⟩,⟨P,Q,R,S⟩,a6,I,H,-⟩:=h.pre;unfold gX;rw[K]at j;clear h K;subst j;obtain⟨g,F⟩:=r.used H.out.ht;have O:=kH g;clear g r;rcases F with F| ⟨q,f,d,y,F,-,-,G,-⟩
 ·rw[show bH C t n res=[] by unfold bH;rw[H.out.hk,F];rfl]
  have M:=kH F;clear F;go_in
  go_wp2_with (rw[D])
  refine(tV I.out O.out M.out).mono ?_;rintro e w1 ⟨rfl,A⟩;have L:=kH A;clear A U V X Y Z v lc J D P Q R S;simp only[Option.elim_none];go_wp2_with fail
  go_end0
  exact⟨rfl,by have A:=L.out.rc;simp only[List.append_nil]at A⊢;exact A,L.out.cx⟩
 rw[show bH C t n res=[j4 n d.node t] by unfold bH;rw[H.out.hk,F];rfl];have M:=kH F;have b:(0:Int)<=(f:Int):=by omega
 rw[G];have N:=kH G;clear F G;go_in
 go_wp2_with (rw[D])
 refine(tV I.out O.out M.out).mono ?_;rintro e w1 ⟨rfl,A⟩;have L:=kH A;clear A U V X Y Z v lc J D P Q R S;simp only[Option.elim_some,N.out];go_wp2_with fail
 refine(xO L.out (by have:=H.out.ob;omega) H.out.ht (n:Int) (f:Int)).mono ?_;rintro e w2 ⟨rfl,A⟩;have u:=kH A;clear A;go_wp2_with fail
 go_end0
 exact⟨rfl,u.out.rc,u.out.cx⟩
end
section
variable {E:CE}{C:CM}{B:Nat}{out:List bD}{w:World}{t:ae}{n:Nat}(h:Hm E C B out w t n) (p:Nat) (res:Int)
include h
theorem aai(g:yD C)(H:abN C t p res)(S:t.kind=17):gX E C out w t n p res:=by
 obtain⟨gb,go,T,c,k,x,a,z,m,W1,D,L,⟨c0,g0,g1,g2,g3,g4,lc,a8,U⟩,⟨b0,b1,b4,bl⟩,ad,A,I,Y⟩:=h.pre;unfold gX;obtain⟨y,V,u,f⟩:=H S;rw[L]at S;have M:t.kids.length=1:=by rw[I.out.num (sh:=⟨dM,[eU aN],none,0⟩) (by rw[S];rfl) rfl];rfl
 have Q:y.kids.length=3:=gV (sh:=⟨bO,[bA [6],eU bU,bA [11]],none,0⟩) (g.sh y (acn V)) (by rw[u];rfl) rfl;have G:Below w.heap.size w W1:=by rw[<- D];exact ai _ _
 obtain⟨tb,tq,hT,ab,X⟩:=EB (aD.below G h.rh.bw _ _ _ Y.out) (i:=0) (by omega) A.out.rh.bw;obtain⟨D7,a1,P,pc,q0,q1,-,q4,v,ql,qg,qn⟩:=A.out.node V;obtain⟨pb,po,hP,aa,p1⟩:=EB v (i:=1) (by omega) A.out.rh.bw;rw[Q]at q4;subst hT hP;have N:m=1:=by rw[<- I.out.hm];exact M
 clear h L;subst S;subst N;have O:=I.out.y0 (by omega);rw[show bH C t n res=if (kd t 0).kind≠0/\0<=res then [j4 (nk t n 0) res t] else [] by unfold bH;rw[I.out.hk];rfl,f,O.2];obtain⟨b, J⟩:=ag ((kd t 0).kind);obtain⟨k1, K⟩:=ag ((kd y 1).kind);rw[J]at X⊢;rw[K]at p1⊢;have d:tq+0*5=tq:=by omega
 rw[d]at X;have Z:po+1*5=po+5:=by omega
 rw[Z]at p1;clear g H V u f M Q G v J K Y d Z O;by_cases j:b=0
 ·rw[if_neg (by omega)]
  go_in
  go_wp2_with (rw[D])
  go_end0
  exact⟨rfl,by have F:=A.out.rc;simp only[List.append_nil]at F⊢;exact F,A.out.cx⟩
 by_cases R:k1=0
 ·rw[if_neg (by simp[R])]
  go_in
  go_wp2_with (rw[D])
  go_end0
  exact⟨rfl,by have F:=A.out.rc;simp only[List.append_nil]at F⊢;exact F,A.out.cx⟩
 rw[if_pos (by simp[j,R]),if_pos (by simpa using R)];have a6:(b !=0)=true:=by simpa using j
 have a7:(k1 !=0)=true:=by simpa using R
 go_in
 go_wp2_with (rw[D])
 refine(xO A.out (by have:=I.out.ob;omega) I.out.ht ((n+1:Nat):Int) (p:Int)).mono ?_;rintro e w2 ⟨rfl,F⟩;have r:=kH F;clear F c0 g0 g1 g2 g3 g4 lc U D b0 b1 b4 bl X p1 q0 q1 q4 ql qg;go_wp2_with fail
 go_end0
 exact⟨rfl,r.out.rc,r.out.cx⟩
end
theorem L8{C:CM}{t:ae}{n m:Nat}{d:Dc}{z:ae}(H:oW C n=some d)(I:Ad C d.node=z)(A:d.node=(m:Int))(D:z.kind=3\/z.kind=5):
 uS C t n=iH t.kids (bR t.kids (n+1)) (bR (oF z m).1.kids ((oF z m).2+1)) t.kids.length++(if z.kind=3 then [fV n 4 0 t.text t] else if t.kind=27/\(kd z 1).kind≠0 then [j4 n (m:Int) t] else []):=by
 unfold uS oF;rw[H];show(if (Ad C d.node).kind=3 then _ else _)=_;rw[I,A];rcases D with h|h
 ·have G:¬z.kind=5:=by omega
  simp only[if_pos h,if_neg G];rfl
 have F:¬z.kind=3:=by omega
 simp only[if_neg F,if_pos h];rfl
theorem Ij{E:CE}{C:CM}{B:Nat}{w W:World}{cs:Array Value}{o:List bD}{q:Nat}(h:SQ E C B w cs o q W)(A:yD C){n m:Nat}{t z:ae}(D:C.N[n]? =some t)(F:C.N[m]? =some z)(J:z.kind=5->0<z.kids.length)(K:q+t.kids.length<=1000000):
 Calls Tryz.prog 119 #[.pointer (some ⟨E.cb,0,none⟩),.int .i64 (n:Int),.int .i64 (m:Int)] W fun e w'=>e= .returned (.tuple #[])/\SQ E C B w cs (o++iH t.kids (bR t.kids (n+1)) (bR (oF z m).1.kids ((oF z m).2+1)) t.kids.length) (q+t.kids.length) w':=
 (MG E C B o W h.rc h.rh h.le n m t z (A.sub n t D).1 (A.sub n t D).2 (A.sub m z F).1 (A.sub m z F).2 J (by have:=h.len;omega)).mono fun e w' ⟨G,H,I⟩=>⟨G,h.step H I (by rw[acm];have:=h.len;have:=qY t.kids (bR t.kids (n+1)) (bR (oF z m).1.kids ((oF z m).2+1)) t.kids.length;omega)⟩
section
variable {E:CE}{C:CM}{B:Nat}{out:List bD}{w:World}{t:ae}{n:Nat}(h:Hm E C B out w t n) (p:Nat) (res:Int)
include h
theorem XO(hC:yD C)(G:t.kind=19\/t.kind=27):gX E C out w t n p res:=by
 obtain⟨gb,go,T,c,k,x,a,z,m,W1,F,K,⟨c0,g0,g1,g2,g3,g4,lc,an,R⟩,⟨O,Y,b4,Q⟩,ao,M,J,-⟩:=h.pre;unfold gX;obtain⟨hu,V⟩:=hC.used J.out.ht
 have r:bH C t n res=uS C t n:=by
  unfold bH;rcases G with G|G<;>(rw[G];rfl)
 rw[r];have b:=kH hu;have HC:=kH hC;rcases V with V| ⟨q,f,d,y,V,-,-,Z,hy,Yz,a6,a8,X,JV,-⟩
 ·rw[show uS C t n=[] by unfold uS;rw[V]]
  rw[K]at G;have g:=kH V;clear h K hC hu V r;rcases G with rfl|rfl
  all_goals
   go_in
   go_wp2_with (rw[F])
   refine(tV M.out b.out g.out).mono ?_;rintro e w1 ⟨rfl,A⟩;have S:=kH A;clear A c0 g0 g1 g2 g3 g4 lc R F O Y b4 Q;simp only[Option.elim_none];go_wp2_with fail
   try simp only[Exit.inBlock,Exit.then]
   refine bodyPost_ret (v:=.tuple #[]) (by simp[results,Tryz.results63,go_sem]) rfl ?_;exact⟨rfl,by have A:=S.out.rc;simp only[List.append_nil]at A⊢;exact A,S.out.cx⟩
 have Ac:y.kind=3\/y.kind=5:=by
  rcases G with G|G
  ·exact .inr (JV G)
  exact(X G).2
 rw[L8 V Yz Z Ac];have h5:y.kind=5->y.kids.length=3:=fun h5=>gV (sh:=⟨bO,[bA [6],eU bU,bA [11]],none,0⟩) a6 (by rw[h5];rfl) rfl
 have a7:(k=19/\y.kind=5)\/(k=27/\y.kind=3)\/(k=27/\y.kind=5/\(kd y 1).kind=0)\/(k=27/\y.kind=5/\(kd y 1).kind≠0):=by
  rw[K]at G;rcases G with G|G
  ·exact .inl ⟨G,JV (by rw[K];exact G)⟩
  rcases Ac with h3|h3
  ·exact .inr (.inl ⟨G,h3⟩)
  by_cases h0:(kd y 1).kind=0
  ·exact .inr (.inr (.inl ⟨G,h3,h0⟩))
  exact .inr (.inr (.inr ⟨G,h3,h0⟩))
 rw[K];have g:=kH V;have H:Hid (C.N[f]? =some y/\d.node=(f:Int)/\(y.kind=5->y.kids.length=3)):=kH ⟨hy,Z,h5⟩;have af:(0:Int)<=(f:Int):=by omega
 have aa:¬(f:Int)<0:=by omega
 have al:decide ((f:Int)<0)=false:=decide_eq_false aa;clear h K hC hu V r a8 X JV a6 Yz Z hy h5 Ac G;rcases a7 with⟨rfl,D⟩| ⟨rfl,D⟩| ⟨rfl,D,I⟩| ⟨rfl,D,I⟩
 ·rw[if_neg (by omega),if_neg (by omega)]
  have L:=kH D;clear D;go_in
  go_wp2_with (rw[F])
  refine(tV M.out b.out g.out).mono ?_;rintro e w1 ⟨rfl,A⟩;have S:=kH A;clear A c0 g0 g1 g2 g3 g4 lc R F O Y b4 Q;simp only[Option.elim_some,H.out.2.1];go_wp2_with fail
  refine(Ij S.out HC.out J.out.ht H.out.1 (fun e=>by rw[H.out.2.2 e];decide) (by have:=J.out.ob;omega)).mono ?_;rintro e w2 ⟨rfl,A⟩;have U:=kH A;have O:=A.bx.cell 0;have Q:=A.bx.lt;clear A;go_wp2_with fail
  go_end0
  exact⟨rfl,by have A:=U.out.rc;simp only[List.append_nil]at A⊢;exact A,U.out.cx⟩
 ·rw[if_pos D]
  have L:=kH D;clear D;go_in
  go_wp2_with (rw[F])
  refine(tV M.out b.out g.out).mono ?_;rintro e w1 ⟨rfl,A⟩;have S:=kH A;clear A c0 g0 g1 g2 g3 g4 lc R F O Y b4 Q;simp only[Option.elim_some,H.out.2.1];go_wp2_with fail
  refine(Ij S.out HC.out J.out.ht H.out.1 (fun e=>by rw[H.out.2.2 e];decide) (by have:=J.out.ob;omega)).mono ?_;rintro e w2 ⟨rfl,A⟩;have U:=kH A;have O:=A.bx.cell 0;have Y:=A.bx.cell 1;have Q:=A.bx.lt;obtain⟨D7,a1,P,pc,q0,j,-,-,-,ql,qg,qn⟩:=A.node H.out.1;rw[L.out]at j;clear A;go_wp2_with fail
  refine(kV U.out (by have:=J.out.ob;omega) J.out.ht (n:Int) 4 0 x).mono ?_;rintro e w3 ⟨rfl,A⟩;have bI:=kH A;clear A O Y Q q0 j ql qg;go_wp2_with fail
  go_end0
  exact⟨rfl,by have A:=bI.out.rc;rw[J.out.hx];simp only[List.append_assoc]at A⊢;exact A,bI.out.cx⟩
 ·rw[if_neg (by omega),if_neg (by simp[I])]
  have L:=kH (And.intro D I);clear D I;go_in
  go_wp2_with (rw[F])
  refine(tV M.out b.out g.out).mono ?_;rintro e w1 ⟨rfl,A⟩;have S:=kH A;clear A c0 g0 g1 g2 g3 g4 lc R F O Y b4 Q;simp only[Option.elim_some,H.out.2.1];go_wp2_with fail
  refine(Ij S.out HC.out J.out.ht H.out.1 (fun e=>by rw[H.out.2.2 e];decide) (by have:=J.out.ob;omega)).mono ?_;rintro e w2 ⟨rfl,A⟩;have U:=kH A;have O:=A.bx.cell 0;have Q:=A.bx.lt;obtain⟨D7,a1,P,pc,q0,j,-,q4,NQ,ql,qg,qn⟩:=A.node H.out.1;obtain⟨pb,po,hP,ab,p1⟩:=EB NQ (i:=1) (by rw[H.out.2.2 L.out.1];decide) A.rh.bw;subst hP;rw[L.out.1]at j;rw[H.out.2.2 L.out.1]at q4;rw[L.out.2,show po+1*5=po+5 by omega]at p1;clear A NQ;go_wp2_with fail
  go_end0
  exact⟨rfl,by have A:=U.out.rc;simp only[List.append_nil]at A⊢;exact A,U.out.cx⟩
 rw[if_neg (by omega),if_pos ⟨rfl,I⟩];obtain⟨k1, u⟩:=ag ((kd y 1).kind);rw[u]at I;have ad:(k1 !=0)=true:=by simpa using I
 have L:=kH (And.intro D u);clear D u;go_in
 go_wp2_with (rw[F])
 refine(tV M.out b.out g.out).mono ?_;rintro e w1 ⟨rfl,A⟩;have S:=kH A;clear A c0 g0 g1 g2 g3 g4 lc R F O Y b4 Q;simp only[Option.elim_some,H.out.2.1];go_wp2_with fail
 refine(Ij S.out HC.out J.out.ht H.out.1 (fun e=>by rw[H.out.2.2 e];decide) (by have:=J.out.ob;omega)).mono ?_;rintro e w2 ⟨rfl,A⟩;have U:=kH A;have O:=A.bx.cell 0;have Q:=A.bx.lt;obtain⟨D7,a1,P,pc,q0,j,-,q4,NQ,ql,qg,qn⟩:=A.node H.out.1;obtain⟨pb,po,hP,ab,p1⟩:=EB NQ (i:=1) (by rw[H.out.2.2 L.out.1];decide) A.rh.bw;subst hP;rw[L.out.1]at j;rw[H.out.2.2 L.out.1]at q4;rw[L.out.2,show po+1*5=po+5 by omega]at p1;clear A NQ;go_wp2_with fail
 refine(xO U.out (by have:=J.out.ob;omega) J.out.ht (n:Int) (f:Int)).mono ?_;rintro e w3 ⟨rfl,A⟩;have bI:=kH A;clear A O Q q0 j q4 ql qg p1;go_wp2_with fail
 go_end0
 exact⟨rfl,by have A:=bI.out.rc;simp only[List.append_assoc]at A⊢;exact A,bI.out.cx⟩
end
theorem SQ.row{E:CE}{C:CM}{B:Nat}{w W:World}{cs:Array Value}{o:List bD}{q:Nat}(h:SQ E C B w cs o q W){v:Value}(A:W.cell? ⟨E.cb,0,none⟩=some v):v= .slice E.rA E.rn E.rc:=by
 obtain⟨G,H,F,-⟩:=h.rc;have D:W.cell? ⟨E.cb,0,none⟩=some (.slice E.rA E.rn E.rc):=F.cell 0;rw[D]at A;exact(Option.some.inj A).symm
section
variable {E:CE}{C:CM}{B:Nat}{out:List bD}{w:World}{t:ae}{n:Nat}(h:Hm E C B out w t n) (p:Nat) (res:Int)
include h
theorem aal(hC:yD C)(L:t.kind=22):gX E C out w t n p res:=by
 obtain⟨gb,go,T,c,k,x,a,z,m,W1,H,G,⟨c0,g0,g1,g2,g3,g4,lc,ao,a6⟩,⟨b0,b1,b4,bl⟩,aq,j,Q,-⟩:=h.pre;unfold gX;obtain⟨hu,I⟩:=hC.used Q.out.ht;have HU:=kH hu;have a7:t.kids.length=1:=by rw[Q.out.num (sh:=⟨bO,[bA [20]],none,0⟩) (by rw[<- G,L];rfl) rfl];rfl
 have X:=Q.out.y0 (by omega);rcases I with I| ⟨q,m',d,y,I,jr,a1,U,-,-,-,-,-,-,M⟩
 ·rw[show bH C t n res=[] by unfold bH;rw[L,I];rfl]
  rw[G]at L;have HD:=kH I;clear h G hC hu I a7 X;subst L;go_in
  go_wp2_with (rw[H])
  refine(tV j.out HU.out HD.out).mono ?_;rintro e J ⟨rfl,A⟩;have v:=kH A;clear A c0 g0 g1 g2 g3 g4 lc a6 H b0 b1 b4 bl;simp only[Option.elim_none];go_wp2_with fail
  go_end0
  exact⟨rfl,by have A:=v.out.rc;simp only[List.append_nil]at A⊢;exact A,v.out.cx⟩
 obtain⟨Z,ho,a8⟩:=M L;obtain⟨r,Y⟩:∃r,C.N[Z]? =some r:=⟨_,ace a8⟩
 have f:(Ad C d.owner).text=r.text:=by
  unfold Ad;rw[ho,List.getD_eq_getElem?_getD];show((C.N[Z]?).getD tz).text=_;rw[Y];rfl
 obtain⟨u, V⟩:=ag r.text;rw[show bH C t n res=[fV ((n+1:Nat):Int) 4 0 u t,j4 n (m':Int) t] by unfold bH;rw[L,I,X.2];show [fV _ 4 0 (Ad C d.owner).text t,j4 _ d.node t]=_;rw[f,V,U]];rw[G]at L;have HD:=kH I;have K:Hid (C.us[n]? =some (q:Int)/\C.ds[q]? =some d/\d.node=(m':Int)/\d.owner=(Z:Int)/\C.N[Z]? =some r/\r.text=u):=kH ⟨jr,a1,U,ho,Y,V⟩;have an:(0:Int)<=(m':Int):=by omega
 clear h G hC hu I a7 X jr a1 U M ho a8 Y f V;subst L;go_in
 go_wp2_with (rw[H])
 refine(tV j.out HU.out HD.out).mono ?_;rintro e J ⟨rfl,A⟩;have v:=kH A;obtain⟨O,D,P,pc,q0,-,q1,-,-,ql,qg,qn⟩:=A.node K.out.2.2.2.2.1;rw[K.out.2.2.2.2.2]at q1;have fE:∀W,Below J.heap.size J W->W.cell? ⟨E.cb,0,none⟩=some (.slice (some ⟨O,D,none⟩) E.rn E.rc)/\W.cell? ⟨O,D+Z*5+1,none⟩=some (.string u):=fun W hb=>⟨(hb.cell (p:=⟨E.cb,_,none⟩) ql).trans q0,(hb.cell (p:=⟨O,_,none⟩) qg).trans q1⟩
 have aa:=kH (A.row q0);have bP:=kH fE;clear A c0 g0 g1 g2 g3 g4 lc a6 H b0 b1 b4 bl fE q0 q1 ql qg;simp only[Option.elim_some,K.out.2.2.1];go_wp2_with fail
 have F:Below J.heap.size J J.drew:=(Below.refl _ _).drew;have g:=bP.out _ F;refine mO (fun W=>W.cell? ⟨E.cb,0,none⟩=some (.slice (some ⟨O,D,none⟩) E.rn E.rc)/\W.cell? ⟨O,D+Z*5+1,none⟩=some (.string u)) [] (.soft 0 (.soft 1 (.soft 2 (.soft 3 (.soft 4 (.soft 5 (.soft 6 (.soft 7 (.soft 8 (.soft 14 (.hard 9 (.soft 10 (.soft 11 (.soft 12 (.soft 13 (.hard 15 .done)))))))))))))))) (by kernel_rfl) (by kernel_rfl) rfl (by kernel_rfl) ?_
 iterate 10
  refine dX (by simp only[acj,aci,ach];rfl) (by rfl) g (by intro w' S;obtain⟨ab,ad⟩:=S;go_simp;rfl) ?_;simp only[Act.put,sA,sZ,sC]
 refine cB (ig (by simp only[acj,aci,ach];rfl) (by rfl) (by go_simp) ((U6 E C B out J.drew (v.out.below F).rc (v.out.below F).rh n q d K.out.1 K.out.2.1).mono ?_));rintro e2 w2 ⟨rfl,b⟩;rw[K.out.2.2.2.1];have jd:Below J.heap.size J w2:=F.trans (b.mono F.size);have R:=bP.out _ jd;refine⟨_,rfl,fun _=>R,?_⟩;simp only[Act.put,sA,sZ,sC]
 iterate 4
  refine dX (by simp only[acj,aci,ach];rfl) (by rfl) R (by intro w' S;obtain⟨ab,ad⟩:=S;go_simp;rfl) ?_;simp only[Act.put,sA,sZ,sC]
 refine cB (ig (by simp only[acj,aci,ach];rfl) (by rfl) (by go_simp) ((kV (v.out.below jd) (by have:=Q.out.ob;omega) Q.out.ht ((n+1:Nat):Int) 4 0 u).mono ?_));rintro e3 w3 ⟨rfl,A⟩
 have dQ:w3.cell? ⟨E.cb,0,none⟩=some (.slice (some ⟨O,D,none⟩) E.rn E.rc)/\w3.cell? ⟨O,D+Z*5+1,none⟩=some (.string u):=by
  obtain⟨af,al,P3,ar,r0,-,r1,-⟩:=A.node K.out.2.2.2.2.1;have e1:=(A.row r0).trans aa.out.symm;simp only[Value.slice.injEq,acf,Addr.mk.injEq,and_true,true_and]at e1;obtain⟨rfl,rfl⟩:=e1;rw[K.out.2.2.2.2.2]at r1;exact⟨r0,r1⟩
 refine⟨_,rfl,fun _=>dQ,?_⟩;simp only[Act.put,sA,sZ,sC];refine kR ?_;have bI:=kH A;clear A g R dQ F jd b;go_wp2_with fail
 refine(xO bI.out (by have:=Q.out.ob;omega) Q.out.ht (n:Int) (m':Int)).mono ?_;rintro e w4 ⟨rfl,A⟩;have xA:=kH A;clear A;go_wp2_with fail
 go_end0
 exact⟨rfl,by have A:=xA.out.rc;simp only[List.append_assoc,List.cons_append,List.nil_append]at A⊢;exact A,xA.out.cx⟩
end
theorem Qd{E:CE}{C:CM}{B:Nat}{out:List bD}{w:World}{t:ae}{n:Nat}(h:Hm E C B out w t n)(p:Nat)(res:Int)(D:abN C t p res):gX E C out w t n p res:=by
 obtain⟨sh,F,-⟩:=fM (h.cx.sh t (acn h.at_));have A:=h.cx;rcases KH F with k|k|k|k|k|k|k|k|k|k|k|k|k|k|k|k|k|k|k|k|k|k|k|k|k|k|k|k|k
 all_goals
  first
   | exact aak h p res (by omega)
   | exact aag h p res (by omega)
   | exact XL h p res k
   | exact aah h p res k
   | exact aap h p res k
   | exact rcol_if h p res k
   | exact U9 h p res k
   | exact aan h p res k
   | exact aai h p res A D k
   | exact SL h p res k
   | exact XO h p res A (by omega)
   | exact XM h p res A k
   | exact Va h p res k
   | exact aal h p res A k
   | exact aam h p res k
   | exact aaj h p res k
   | exact XP h p res k
   | exact XN h p res k
   | exact rcol_un h p res k
   | exact aao h p res k
structure PH (E:CE) (C:CM) (B:Nat) (w:World):Prop where
 rt:∃root:ae,Zo E root/\C.N=aM root/\aD w B E.rA 0 root.kids/\aB root<=1000000
 us:aS 1 gu w B E.uA C.us
 un:C.us.length=E.un
 ds:aS 4 bQ w B E.dA C.ds
 dn:C.ds.length=E.dn
 rc:jI w B E.sA E.sn C.nm
 cb:B<=E.cb
 base:B<=E.base
 bw:B<=w.heap.size
theorem PH.below{E:CE}{C:CM}{B:Nat}{w w':World}(h:PH E C B w)(D:Below B w w')(J:w.heap.size<=w'.heap.size):PH E C B w':=by
 obtain⟨A,F,G,H,I⟩:=h.rt;exact⟨⟨A,F,G,aD.below D (ab9 _) _ _ _ H,I⟩,h.us.below D (ab9 _),h.un,h.ds.below D (ab9 _),h.dn,h.rc.below D (ab9 _),h.cb,h.base,aca h.bw J⟩
theorem PH.cx{E:CE}{C:CM}{B:Nat}{w w':World}(h:PH E C B w)(A:CX E.base E.cb w w'):PH E C B w':=h.below (A.low h.bw h.cb h.base) A.size
theorem Rq(E:CE)(C:CM)(B:Nat)(out:List bD)(nx rs:Int)(w:World)(h:PC E out nx rs w)(hR:PH E C B w)(N:E.base<=w.heap.size)(n:Nat)(y:ae)(T:Option Addr)(c:Nat)(hN:out.length<=1000000):
 Calls Tryz.prog 105 #[.pointer (some ⟨E.cb,0,none⟩),.int .i64 (n:Int),aO y T c] w fun e w'=>e= .returned (.tuple #[])/\PC E (out++xG C n y) nx rs w'/\CX E.base E.cb w w':=by
 obtain⟨yk,yx,ya,yz,yn,hk,hx,ha,hz,hn,dH⟩:=aW y T c;have O:∀W,Below w.heap.size w W->Calls Tryz.prog 103 #[aO y T c,.slice E.sA E.sn E.sc] W fun e w'=>e= .returned (uw (mG C.nm y))/\Below W.heap.size W w':=fun W hb=>Gj y T c E.sA E.sn E.sc C.nm W ((hR.rc.below hb hR.bw).mono (aca hR.bw hb.size))
 rw[dH]at O⊢;obtain⟨o, ho⟩:=ag (mG C.nm y);unfold xG;rw[ho]at O⊢;obtain⟨⟨F,G,H⟩,a8⟩:∃q:Ty,o.getD (0,0,⟨#[]⟩)=q:=⟨_,rfl⟩
 obtain⟨ok, a7⟩:=ag o.isSome;have al:uw o= .tuple #[.agg #[.int .i64 F,.int .i64 G,.string H],.bool ok]:=by unfold uw;rw[a8,a7];rfl
 rw[al]at O;obtain⟨A, R⟩:=ag (w.alloc (.cells #[.int .i64 yk,.string yx,.int .i64 ya,.int .i64 yz,.slice T yn c] 24));have M:Below w.heap.size w A:=by rw[<- R];exact ai _ _
 have Q:ah A w.heap.size 24 #[.int .i64 yk,.string yx,.int .i64 ya,.int .i64 yz,.slice T yn c]:=by rw[<- R];exact ah.new _ _ _
 have b:=h.below M
 have fE:∀W,Below A.heap.size A W->W.cell? ⟨w.heap.size,0,none⟩=some (.int .i64 yk)/\W.cell? ⟨w.heap.size,1,none⟩=some (.string yx)/\W.cell? ⟨w.heap.size,2,none⟩=some (.int .i64 ya)/\W.cell? ⟨w.heap.size,3,none⟩=some (.int .i64 yz)/\W.cell? ⟨w.heap.size,4,none⟩=some (.slice T yn c)/\W.cell? ⟨E.cb,5,none⟩=some (.slice E.sA E.sn E.sc):=fun W hb=>by
  obtain⟨oA,oc,hC,-⟩:=b.below hb;have hq:=Q.below hb Q.lt;exact⟨hq.cell 0,hq.cell 1,hq.cell 2,hq.cell 3,hq.cell 4,hC.cell 5⟩
 have f:=kH fE;have Ho:Hid (∀W,Below A.heap.size A W->Calls Tryz.prog 103 #[.agg #[.int .i64 yk,.string yx,.int .i64 ya,.int .i64 yz,.slice T yn c],.slice E.sA E.sn E.sc] W fun e w'=>e= .returned (.tuple #[.agg #[.int .i64 F,.int .i64 G,.string H],.bool ok])/\Below W.heap.size W w'):=kH fun W hb=>O W (M.trans (hb.mono M.size))
 have HP:=kH h;have ab:=kH M;have j:Hid (o.getD (0,0,⟨#[]⟩)=(F,G,H)/\o.isSome=ok/\E.base<=w.heap.size/\out.length<=1000000/\y.at_=ya/\y.end_=yz):=kH ⟨a8,a7,N,hN,ha,hz⟩;have lc:E.cb<A.heap.size:=by obtain⟨oA,oc,hC,-⟩:=b;exact hC.lt
 have lb:=Q.lt;clear fE O h hR a8 a7 N hN al ho hk hx ha hz hn dH M Q b;go_in
 go_wp2_with (rw[R])
 clear R;go_cut [6,7] (fun s6 s7 wx=> ∃g,s6= .pointer (some ⟨g,0,none⟩)/\s7= .bool ok/\Hid (ah wx g 108 #[.int .i64 F,.int .i64 G,.string H]/\Below A.heap.size A wx))
 case first=>
  have u:Below A.heap.size A A.drew:=(Below.refl _ _).drew;have a1:=f.out _ u;refine mO (fun W=>W.cell? ⟨w.heap.size,0,none⟩=some (.int .i64 yk)/\W.cell? ⟨w.heap.size,1,none⟩=some (.string yx)/\W.cell? ⟨w.heap.size,2,none⟩=some (.int .i64 ya)/\W.cell? ⟨w.heap.size,3,none⟩=some (.int .i64 yz)/\W.cell? ⟨w.heap.size,4,none⟩=some (.slice T yn c)/\W.cell? ⟨E.cb,5,none⟩=some (.slice E.sA E.sn E.sc)) [] (.soft 0 (.soft 1 (.soft 2 (.soft 3 (.soft 4 (.fork 5 (.soft 6 (.soft 7 (.soft 8 (.hard 9 (.hard 10 (.soft 11 .done)))))) 9 (.hard 5 (.soft 6 (.soft 7 (.soft 8 (.hard 10 (.soft 11 .done)))))))))))) (by kernel_rfl) (by kernel_rfl) rfl (by kernel_rfl) ?_
  iterate 5
   refine dX (by simp only[acj,aci,ach];rfl) (by rfl) a1 (by intro w' D;obtain⟨U,V,X,Y,Z,z⟩:=D;go_simp;rfl) ?_;simp only[Act.put,sA,sZ,sC]
  refine sN ?_ ?_
  ·refine ig (by simp only[acj,aci,ach];rfl) (by rfl) (by go_simp) ((Ho.out _ u).mono ?_)
   rintro e2 K ⟨rfl,J⟩;have P:Below A.heap.size A K:=u.trans (J.mono u.size);have I:=f.out _ P;have d:∀q,Below A.heap.size A (K.alloc (.cells q 108)):=fun q=>P.alloc P.size _
   have v:=fun q=>f.out _ (d q)
   have ad:=v #[.int .i64 F,.int .i64 G,.string H];have HE:Hid (ah (K.alloc (.cells #[.int .i64 F,.int .i64 G,.string H] 108)) K.heap.size 108 #[.int .i64 F,.int .i64 G,.string H]/\Below A.heap.size A (K.alloc (.cells #[.int .i64 F,.int .i64 G,.string H] 108))):=kH ⟨ah.new _ _ _,d _⟩;refine⟨_,rfl,fun _=>I,?_⟩;simp only[Act.put,sA,sZ,sC]
   iterate 3
    refine dX (by simp only[acj,aci,ach];rfl) (by rfl) I (by intro w' D;obtain⟨U,V,X,Y,Z,z⟩:=D;go_simp;rfl) ?_;simp only[Act.put,sA,sZ,sC]
   refine cB (gY (w':=K.alloc (.cells #[.int .i64 0,.int .i64 0,.string ⟨#[]⟩] 108)) (by simp only[acj,aci,ach];rfl) (by rfl) (by go_simp;rfl) (fun _=>v _) ?_);simp only[Act.put,sA,sZ,sC];refine cB (je (w':=K.alloc (.cells #[.int .i64 F,.int .i64 G,.string H] 108)) (by simp only[acj,aci,ach];rfl) (by rfl) (by go_simp) (fun _=>v _) ?_);simp only[Act.put,sA,sZ,sC]
   iterate 1
    refine dX (by simp only[acj,aci,ach];rfl) (by rfl) ad (by intro w' D;obtain⟨U,V,X,Y,Z,z⟩:=D;go_simp;rfl) ?_;simp only[Act.put,sA,sZ,sC]
   refine kR ?_;clear a1 u J P I d v ad;go_wp2_with fail
   go_meet
   exact⟨_,rfl,rfl,HE⟩
  have P:Below A.heap.size A (A.drew.alloc (.cells #[.int .i64 0,.int .i64 0,.string ⟨#[]⟩] 108)):=u.alloc u.size _;refine gY (w':=A.drew.alloc (.cells #[.int .i64 0,.int .i64 0,.string ⟨#[]⟩] 108)) (by simp only[acj,aci,ach];rfl) (by rfl) (by go_simp;rfl) (fun _=>f.out _ P) ?_;simp only[Act.put,sA,sZ,sC];refine cB (ig (by simp only[acj,aci,ach];rfl) (by rfl) (by go_simp) ((Ho.out _ P).mono ?_));rintro e2 K ⟨rfl,J⟩;have L:ah K A.heap.size 108 #[.int .i64 0,.int .i64 0,.string ⟨#[]⟩]:=(ah.new A.drew 108 #[.int .i64 0,.int .i64 0,.string ⟨#[]⟩]).below J (by simp);have vB:Below A.heap.size A K:=P.trans (J.mono P.size);have I:=f.out _ vB;have HE:Hid (ah (((K.setCell ⟨A.heap.size,0,none⟩ (.int .i64 F)).setCell ⟨A.heap.size,1,none⟩ (.int .i64 G)).setCell ⟨A.heap.size,2,none⟩ (.string H)) A.heap.size 108 #[.int .i64 F,.int .i64 G,.string H]/\Below A.heap.size A (((K.setCell ⟨A.heap.size,0,none⟩ (.int .i64 F)).setCell ⟨A.heap.size,1,none⟩ (.int .i64 G)).setCell ⟨A.heap.size,2,none⟩ (.string H))):=kH ⟨by simpa using((L.dB 0 (.int .i64 F)).dB 1 (.int .i64 G)).dB 2 (.string H),((vB.setCell (ab9 _) _).setCell (ab9 _) _).setCell (ab9 _) _⟩;have v:=f.out _ HE.out.2;have x0:=L.frozen 0;have x1:=L.frozen 1;have x2:=L.frozen 2;have x3:=L.cell 0;have x4:=L.cell 1;have x5:=L.cell 2;have x6:=L.lt;refine⟨_,rfl,fun _=>I,?_⟩;simp only[Act.put,sA,sZ,sC]
  iterate 3
   refine dX (by simp only[acj,aci,ach];rfl) (by rfl) I (by intro w' D;obtain⟨U,V,X,Y,Z,z⟩:=D;go_simp;rfl) ?_;simp only[Act.put,sA,sZ,sC]
  refine cB (je (w':=((K.setCell ⟨A.heap.size,0,none⟩ (.int .i64 F)).setCell ⟨A.heap.size,1,none⟩ (.int .i64 G)).setCell ⟨A.heap.size,2,none⟩ (.string H)) (by simp only[acj,aci,ach];rfl) (by rfl) (by go_simp) (fun _=>v) ?_);simp only[Act.put,sA,sZ,sC]
  iterate 1
   refine dX (by simp only[acj,aci,ach];rfl) (by rfl) v (by intro w' D;obtain⟨U,V,X,Y,Z,z⟩:=D;go_simp;rfl) ?_;simp only[Act.put,sA,sZ,sC]
  refine kR ?_;clear a1 u J P I v L x0 x1 x2 x3 x4 x5 x6 vB;go_wp2_with fail
  go_meet
  exact⟨_,rfl,rfl,HE⟩
 obtain⟨g,rfl,rfl,r⟩:=hcut;obtain⟨wo,rfl⟩:∃W:World,W=wc:=⟨_,rfl⟩
 have d0:=r.out.1.cell 0;have d1:=r.out.1.cell 1;have d2:=r.out.1.cell 2;have dl:=r.out.1.lt;obtain⟨y0,y1,y2,y3,y4,-⟩:=f.out wo r.out.2;have yl:w.heap.size<wo.heap.size:=Nat.lt_of_lt_of_le lb r.out.2.size;have S:Below w.heap.size w wo:=ab.out.trans (r.out.2.mono ab.out.size);have aa:CX E.base E.cb w wo:=CX.of_below S;have af:=oh E out nx rs wo (HP.out.below S) j.out.2.2.2.1 (aca j.out.2.2.1 aa.size) (n:Int) F G H yk yx ya yz T yn c;have BK:=kH af;have bZ:=kH (And.intro aa (HP.out.below S));clear af aa S
 cases o with
 | none=>
  have a6:ok=false:=j.out.2.1.symm;subst a6;go_wp2_with fail
  go_end0
  exact⟨rfl,by simpa [Tx] using bZ.out.2,bZ.out.1⟩
 | some x=>
  have a6:ok=true:=j.out.2.1.symm;subst a6;have an:x=(F,G,H):=j.out.1;subst an;go_wp2_with fail
  refine BK.out.mono ?_;rintro e w4 ⟨rfl,hP,L⟩
  have HE:Hid (PC E (out++Tx n y (some (F,G,H))) nx rs w4/\CX E.base E.cb w w4):=kH ⟨by
   unfold Tx fV;rw[j.out.2.2.2.2.1,j.out.2.2.2.2.2]
   exact hP,bZ.out.1.trans L⟩
  clear hP L;go_wp2_with fail
  go_end0
  exact⟨rfl,HE.out⟩
theorem opC_two{t:ae}(h:t.kids.length=2)(n:Nat)(k:Int):nA t n k=[gL (nk t n 0) k (kd t 0),gL (nk t n 1) k (kd t 1)]:=by
 unfold nA;rw[h];rfl
def Nr(t:ae):Int:=if (fP t.text [97,110,100] || fP t.text [111,114])=true then 2 else if (fP t.text [61,61] || fP t.text [33,61])=true then 2 else if (fP t.text [60] || fP t.text [60,61] || fP t.text [62] || fP t.text [62,61])=true then 2 else 1
theorem binC_rt(t:ae)(n:Nat):BF t n=rM t n++[gL n (Nr t) t]:=by
 unfold BF rM Nr;by_cases a:(fP t.text [97,110,100] || fP t.text [111,114])=true
 ·rw[if_pos a,if_pos a,if_pos a]
 rw[if_neg a,if_neg a,if_neg a];by_cases b:(fP t.text [61,61] || fP t.text [33,61])=true
 ·rw[if_pos b,if_pos b,if_pos b]
  rfl
 rw[if_neg b,if_neg b,if_neg b]
theorem J6(b:Bool){P:Prop}(h:P):b=true\/(b=false/\P):=by
 cases b
 ·exact .inr ⟨rfl,h⟩
 exact .inl rfl
theorem PC.set{E:CE}{o:List bD}{nx rs:Int}{W:World}(h:PC E o nx rs W){g:Nat}{D:TypeId}{cs:Array Value}(G:ah W g D cs)(I:D≠110)(H:g≠E.cb)(i:Nat)(v:Value):PC E o nx rs (W.setCell ⟨g,i,none⟩ v):=by
 obtain⟨J,K,F,A⟩:=h;exact⟨J,K,F.far (by exact H.symm) _,A.setCell (by exact A.bB G I.symm) _⟩
theorem Tm(E:CE)(C:CM)(B:Nat)(out:List bD)(nx rs:Int)(w:World)(h:PC E out nx rs w)(hR:PH E C B w)(L:E.base<=w.heap.size)(n:Nat)(t:ae)(T:Option Addr)(c:Nat)(hk:aD w B T 0 t.kids)(h2:t.kids.length=2)
 (V:Option Addr) (I j lo:Nat) (hO:aG w lo 3 1 (.slice V I j) I (bL (bR t.kids (n+1)))) (hN:out.length+4<=1000000):
 Calls Tryz.prog 111 #[.pointer (some ⟨E.cb,0,none⟩),aO t T c,.int .i64 (n:Int),.slice V I j] w fun e w'=>e= .returned (.tuple #[])/\PC E (out++BF t n) nx rs w'/\CX E.base E.cb w w':=by
 obtain⟨k,x,a,z,m,bh,hx,ha,hz,hm,dH⟩:=aW t T c;rw[dH];obtain⟨G, K⟩:=ag ((((((w.alloc (.cells #[.pointer (some ⟨E.cb,0,none⟩)] 113)).alloc (.cells #[.int .i64 k,.string x,.int .i64 a,.int .i64 z,.slice T m c] 24)).alloc (.cells #[.slice V I j] 28)).alloc (.cells #[.int .i64 1,.int .i64 0,.string ⟨#[]⟩] 108)).alloc (.cells #[.int .i64 2,.int .i64 0,.string ⟨#[]⟩] 108)).alloc (.cells #[.int .i64 2,.int .i64 0,.string ⟨#[]⟩] 108));have A:∀(W:World) (o:Obj),(W.alloc o).heap.size=W.heap.size+1:=fun W o=>by simp
 have b0:ah G w.heap.size 113 #[.pointer (some ⟨E.cb,0,none⟩)]:=by rw[<- K];exact(((((ah.new w _ _).alloc _).alloc _).alloc _).alloc _).alloc _
 have b:ah G (w.heap.size+1) 24 #[.int .i64 k,.string x,.int .i64 a,.int .i64 z,.slice T m c]:=by
  have h:=ah.new (w.alloc (.cells #[.pointer (some ⟨E.cb,0,none⟩)] 113)) 24 #[.int .i64 k,.string x,.int .i64 a,.int .i64 z,.slice T m c];rw[A]at h;rw[<- K];exact(((h.alloc _).alloc _).alloc _).alloc _
 have b2:ah G (w.heap.size+1+1) 28 #[.slice V I j]:=by
  have h:=ah.new ((w.alloc (.cells #[.pointer (some ⟨E.cb,0,none⟩)] 113)).alloc (.cells #[.int .i64 k,.string x,.int .i64 a,.int .i64 z,.slice T m c] 24)) 28 #[.slice V I j];rw[A,A]at h;rw[<- K];exact((h.alloc _).alloc _).alloc _
 have b6:ah G (w.heap.size+1+1+1) 108 #[.int .i64 1,.int .i64 0,.string ⟨#[]⟩]/\ah G (w.heap.size+1+1+1+1) 108 #[.int .i64 2,.int .i64 0,.string ⟨#[]⟩]/\ah G (w.heap.size+1+1+1+1+1) 108 #[.int .i64 2,.int .i64 0,.string ⟨#[]⟩]:=by
  rw[<- K];generalize O:((w.alloc (.cells #[.pointer (some ⟨E.cb,0,none⟩)] 113)).alloc (.cells #[.int .i64 k,.string x,.int .i64 a,.int .i64 z,.slice T m c] 24)).alloc (.cells #[.slice V I j] 28)=X
  have hs:X.heap.size=w.heap.size+1+1+1:=by rw[<- O,A,A,A]
  rw[<- hs];refine⟨((ah.new X _ _).alloc _).alloc _,?_,?_⟩
  ·have h:=ah.new (X.alloc (.cells #[.int .i64 1,.int .i64 0,.string ⟨#[]⟩] 108)) 108 #[.int .i64 2,.int .i64 0,.string ⟨#[]⟩]
   rw[A]at h;exact h.alloc _
  have h:=ah.new ((X.alloc (.cells #[.int .i64 1,.int .i64 0,.string ⟨#[]⟩] 108)).alloc (.cells #[.int .i64 2,.int .i64 0,.string ⟨#[]⟩] 108)) 108 #[.int .i64 2,.int .i64 0,.string ⟨#[]⟩];rw[A,A]at h;exact h
 obtain⟨b3,b4,b5⟩:=b6
 have P:Below w.heap.size w G:=by
  rw[<- K];refine(((((ai w _).alloc ?_ _).alloc ?_ _).alloc ?_ _).alloc ?_ _).alloc ?_ _<;>(try simp only[A])<;>omega
 have lc:E.cb<w.heap.size:=by obtain⟨oA,oc,hC,-⟩:=h;exact hC.lt
 have aq:CX E.base E.cb w G:=CX.of_below P;have nK:=hR.cx aq;have ad:=h.below P;have jv:=hO.below P (fun g hg=>(hO.lt g hg).2);have ao:=aD.below P hR.bw _ _ _ hk;have Q:=DC (i:=0) (by omega:0<t.kids.length) n;have R:=DC (i:=1) (by omega:1<t.kids.length) n;have ax:=gq (i:=0) (by omega:0<t.kids.length);have ay:=gq (i:=1) (by omega:1<t.kids.length)
 have r:∀tk,Calls Tryz.prog 177 #[.agg #[.int .i64 tk,.int .i64 0,.string ⟨#[]⟩],.pointer (some ⟨w.heap.size,0,none⟩),.pointer (some ⟨w.heap.size+1+1,0,none⟩),.pointer (some ⟨w.heap.size+1,0,none⟩)] G fun e w'=>e= .returned (.tuple #[])/\PC E (out++nA t n tk) nx rs w'/\CX E.base E.cb G w':=fun tk=>by
  have:=abF E out nx rs G ad (by omega) (aca L P.size) w.heap.size (w.heap.size+1+1) (w.heap.size+1) V I j k x a z T m c b0 b2 b B nK.bw hR.cb hR.base t.kids ao hm (bR t.kids (n+1)) lo jv _ _ Q R _ _ ax ay tk 0 ⟨#[]⟩;rw[opC_two h2];exact this
 obtain⟨a1, b7⟩:=ag ((x.toList==[97,110,100]));obtain⟨a2, b8⟩:=ag ((x.toList==[111,114]));obtain⟨a3, b9⟩:=ag ((x.toList==[61,61]));obtain⟨a4, ba⟩:=ag ((x.toList==[33,61]));obtain⟨a5, xI⟩:=ag ((x.toList==[60]));obtain⟨a6, bb⟩:=ag ((x.toList==[60,61]));obtain⟨a7, bc⟩:=ag ((x.toList==[62]));obtain⟨a8, bd⟩:=ag ((x.toList==[62,61]))
 have av:rM t n=(if (a1 || a2)=true then nA t n 2 else if (a3 || a4)=true then [j4 (nk t n 0) (nk t n 1) t,gL (nk t n 0) 6 (kd t 0)] else nA t n 1)/\Nr t=if (a1 || a2)=true then 2 else if (a3 || a4)=true then 2 else if (a5 || a6 || a7 || a8)=true then 2 else 1:=by
  unfold rM Nr fP;rw[hx,b7,b8,b9,ba,xI,bb,bc,bd];exact⟨rfl,rfl⟩
 rw[binC_rt,<- List.append_assoc];have tO:=kH av;have aa:=kH r;have HB:=kH (And.intro b0 (And.intro b (And.intro b2 (And.intro b3 (And.intro b4 b5)))));have bZ:=kH (And.intro aq (And.intro ad nK));have F:Hid (E.base<=w.heap.size/\out.length+4<=1000000/\t.kids.length=2/\E.cb<w.heap.size/\t.at_=a/\t.end_=z/\t.kids.length=m):=kH ⟨L,hN,h2,lc,ha,hz,hm⟩;have HK:=kH (And.intro ao jv);have e0:=b0.cell 0;have n0:=b.cell 0;have n1:=b.cell 1;have n2:=b.cell 2;have n3:=b.cell 3;have n4:=b.cell 4;have s0:=b2.cell 0;have i0:=b3.cell 0;have i1:=b3.cell 1;have i2:=b3.cell 2;have j0:=b4.cell 0;have j1:=b4.cell 1;have j2:=b4.cell 2;have hl:=b5.lt;clear av r b0 b b2 b3 b4 b5 aq ad nK L hN h2 lc ao jv Q R ax ay h hR hk hO P A bh hx ha hz hm dH;go_in
 have ar:=kH K;clear K;go_upto_block 0 with fail
 rw[ar.out];clear ar;go_cut [] (fun wx=>Hid (PC E (out++rM t n) nx rs wx/\CX E.base E.cb w wx/\ah wx w.heap.size 113 #[.pointer (some ⟨E.cb,0,none⟩)]/\ah wx (w.heap.size+1) 24 #[.int .i64 k,.string x,.int .i64 a,.int .i64 z,.slice T m c]/\ah wx (w.heap.size+1+1+1+1+1) 108 #[.int .i64 (Nr t),.int .i64 0,.string ⟨#[]⟩]))
 case first=>
  have ab:∀W,CX E.base E.cb G W->CX E.base E.cb w W/\ah W w.heap.size 113 #[.pointer (some ⟨E.cb,0,none⟩)]/\ah W (w.heap.size+1) 24 #[.int .i64 k,.string x,.int .i64 a,.int .i64 z,.slice T m c]/\ah W (w.heap.size+1+1+1+1+1) 108 #[.int .i64 2,.int .i64 0,.string ⟨#[]⟩]/\ah W (w.heap.size+1+1+1) 108 #[.int .i64 1,.int .i64 0,.string ⟨#[]⟩]:=fun W u=>by
   have:=F.out.2.2.2.1;exact⟨bZ.out.1.trans u,u.blk HB.out.1 (by decide) (by omega),u.blk HB.out.2.1 (by decide) (by omega),u.blk HB.out.2.2.2.2.2 (by decide) (by omega),u.blk HB.out.2.2.2.1 (by decide) (by omega)⟩
  have fI:=kH ab;clear ab;rcases J6 a1 (J6 a2 (J6 a3 (J6 a4 (J6 a5 (J6 a6 (J6 a7 (Bool.eq_false_or_eq_true a8))))))) with rfl| ⟨rfl,rfl| ⟨rfl,rfl| ⟨rfl,rfl| ⟨rfl,rfl| ⟨rfl,rfl| ⟨rfl,rfl| ⟨rfl,rfl|rfl⟩⟩⟩⟩⟩⟩⟩
  all_goals
   go_wp2_with fail
  all_goals
   first
    | (refine(aa.out _).mono ?_
       rintro e w2 ⟨rfl,N,O⟩;obtain⟨f1,v,f3,S,f5⟩:=fI.out w2 O;have i0:=f5.cell 0;have i1:=f5.cell 1;have i2:=f5.cell 2;have il:=f5.lt;have j0:=S.cell 0;have j1:=S.cell 1;have j2:=S.cell 2;have jl:=S.lt;have jf:=S.frozen 0;have bN:=S.frozen 1;have bT:=S.frozen 2;have d:Hid (PC E (out++rM t n) nx rs w2):=kH (by rw[tO.out.1];exact N);have y:=kH (And.intro f1 (And.intro v (And.intro f3 S)));clear N O f1 v f3 S f5;go_wp2_with fail
       go_meet
       first
        | exact kH ⟨d.out,y.out.1,y.out.2.1,y.out.2.2.1,by rw[tO.out.2];exact y.out.2.2.2⟩
        | exact kH ⟨((d.out.set y.out.2.2.2 (by decide) (by have:=F.out.2.2.2.1;omega) _ _).set (y.out.2.2.2.dB 0 _) (by decide) (by have:=F.out.2.2.2.1;omega) _ _).set ((y.out.2.2.2.dB 0 _).dB 1 _) (by decide) (by have:=F.out.2.2.2.1;omega) _ _,((y.out.1.setCell (.inr (by show w.heap.size<=w.heap.size+1+1+1+1+1;omega)) _).setCell (.inr (by show w.heap.size<=w.heap.size+1+1+1+1+1;omega)) _).setCell (.inr (by show w.heap.size<=w.heap.size+1+1+1+1+1;omega)) _,((y.out.2.1.far (by show w.heap.size≠w.heap.size+1+1+1+1+1;omega) _).far (by show w.heap.size≠w.heap.size+1+1+1+1+1;omega) _).far (by show w.heap.size≠w.heap.size+1+1+1+1+1;omega) _,((y.out.2.2.1.far (by show w.heap.size+1≠w.heap.size+1+1+1+1+1;omega) _).far (by show w.heap.size+1≠w.heap.size+1+1+1+1+1;omega) _).far (by show w.heap.size+1≠w.heap.size+1+1+1+1+1;omega) _,by rw[tO.out.2];simpa using((y.out.2.2.2.dB 0 (.int .i64 1)).dB 1 (.int .i64 0)).dB 2 (.string ⟨#[]⟩)⟩)
    | skip
  all_goals
   obtain⟨D,H,U,uc,hT,aw,u0,u1,u2,u3,u4,-⟩:=kZ HK.out.1 (gq (i:=0) (by rw[F.out.2.2.1];omega));have az:(bR t.kids (n+1)).length=I:=by have:=HK.out.2.1;rw[Nat.mul_one]at this;unfold bL at this;rw[List.length_map]at this;exact this
   rw[yY,F.out.2.2.1]at az;obtain⟨Y,Z,vq,aE,-,-,-,MM,Lf⟩:=HK.out.2.form (by omega);simp only[Value.slice.injEq,true_and]at aE;obtain⟨rfl,rfl⟩:=aE;obtain⟨l0, Q⟩:=ag (nk t n 0);obtain⟨l1, R⟩:=ag (nk t n 1);have v0:G.cell? ⟨Y,Z,none⟩=some (.int .i64 l0):=by simpa using Lf 0 (.int .i64 l0) (by unfold bL;rw[List.getElem?_map,DC (by rw[F.out.2.2.1];omega),Q];rfl)
   have v1:G.cell? ⟨Y,Z+1,none⟩=some (.int .i64 l1):=Lf 1 (.int .i64 l1) (by unfold bL;rw[List.getElem?_map,DC (by rw[F.out.2.2.1];omega),R];rfl);have dH:(Value.slice (some (⟨Y,Z,none⟩:Addr)) I j).ownBlock≠some E.cb:=by obtain⟨oA,oc,hC,-⟩:=bZ.out.2.1;exact HK.out.2.bB hC (by decide)
   obtain⟨uk,ux,ua,uz,ul,nJ,oI,qm,rP,nY,-⟩:=aW (kd t 0) U uc;rw[nJ,Nat.zero_mul,Nat.add_zero]at u0;rw[oI,Nat.zero_mul,Nat.add_zero]at u1;rw[qm,Nat.zero_mul,Nat.add_zero]at u2;rw[rP,Nat.zero_mul,Nat.add_zero]at u3;rw[nY,Nat.zero_mul,Nat.add_zero]at u4;subst hT
   have fE:∀W,CX E.base E.cb G W->W.cell? ⟨w.heap.size,0,none⟩=some (.pointer (some ⟨E.cb,0,none⟩))/\W.cell? ⟨w.heap.size+1+1,0,none⟩=some (.slice (some ⟨Y,Z,none⟩) I j)/\W.cell? ⟨Y,Z,none⟩=some (.int .i64 l0)/\W.cell? ⟨Y,Z+1,none⟩=some (.int .i64 l1)/\W.cell? ⟨w.heap.size+1,0,none⟩=some (.int .i64 k)/\W.cell? ⟨w.heap.size+1,1,none⟩=some (.string x)/\W.cell? ⟨w.heap.size+1,2,none⟩=some (.int .i64 a)/\W.cell? ⟨w.heap.size+1,3,none⟩=some (.int .i64 z)/\W.cell? ⟨w.heap.size+1,4,none⟩=some (.slice (some ⟨D,H,none⟩) m c)/\W.cell? ⟨D,H,none⟩=some (.int .i64 uk)/\W.cell? ⟨D,H+1,none⟩=some (.string ux)/\W.cell? ⟨D,H+2,none⟩=some (.int .i64 ua)/\W.cell? ⟨D,H+3,none⟩=some (.int .i64 uz)/\W.cell? ⟨D,H+4,none⟩=some (.slice U ul uc):=fun W u=>by
    obtain⟨-,f1,v,-,-⟩:=fI.out W u;have f3:=u.blk HB.out.2.2.1 (by decide) (by have:=F.out.2.2.2.1;omega);have e1:∀(o:Nat),W.cell? ⟨D,o,none⟩=G.cell? ⟨D,o,none⟩:=fun o=>(u.low bZ.out.2.2.bw bZ.out.2.2.cb bZ.out.2.2.base).cell (p:=⟨D,o,none⟩) aw
    exact⟨f1.cell 0,f3.cell 0,(u.Ev HK.out.2 (by decide) dH _).trans v0,(u.Ev HK.out.2 (by decide) dH _).trans v1,v.cell 0,v.cell 1,v.cell 2,v.cell 3,v.cell 4,(e1 _).trans u0,(e1 _).trans u1,(e1 _).trans u2,(e1 _).trans u3,(e1 _).trans u4⟩
   have bP:=kH fE;have HL:Hid (nk t n 0=l0/\nk t n 1=l1/\(kd t 0).at_=ua/\(kd t 0).end_=uz):=kH ⟨Q,R,qm,rP⟩;have bx:(0:Int)<(I:Int):=by omega
   have bG:(1:Int)<(I:Int):=by omega
   have bI:0<I:=by omega
   have bM:1<I:=by omega
   have bj:m=2:=by rw[<- F.out.2.2.2.2.2.2,F.out.2.2.1]
   have bk:0<m:=by omega
   have bl:(0:Int)<(m:Int):=by omega
   have al:CX E.base E.cb G G.drew:=CX.of_below ((Below.refl _ _).drew);have J:=bP.out _ al;clear fE aw u0 u1 u2 u3 u4 az MM Lf Q R v0 v1 dH nJ oI qm rP nY e0 n0 n1 n2 n3 n4 s0 i0 i1 i2 j0 j1 j2 hl bj;refine bF (fun W=>W.cell? ⟨w.heap.size,0,none⟩=some (.pointer (some ⟨E.cb,0,none⟩))/\W.cell? ⟨w.heap.size+1+1,0,none⟩=some (.slice (some ⟨Y,Z,none⟩) I j)/\W.cell? ⟨Y,Z,none⟩=some (.int .i64 l0)/\W.cell? ⟨Y,Z+1,none⟩=some (.int .i64 l1)/\W.cell? ⟨w.heap.size+1,0,none⟩=some (.int .i64 k)/\W.cell? ⟨w.heap.size+1,1,none⟩=some (.string x)/\W.cell? ⟨w.heap.size+1,2,none⟩=some (.int .i64 a)/\W.cell? ⟨w.heap.size+1,3,none⟩=some (.int .i64 z)/\W.cell? ⟨w.heap.size+1,4,none⟩=some (.slice (some ⟨D,H,none⟩) m c)/\W.cell? ⟨D,H,none⟩=some (.int .i64 uk)/\W.cell? ⟨D,H+1,none⟩=some (.string ux)/\W.cell? ⟨D,H+2,none⟩=some (.int .i64 ua)/\W.cell? ⟨D,H+3,none⟩=some (.int .i64 uz)/\W.cell? ⟨D,H+4,none⟩=some (.slice U ul uc)) [] [true,true,true,true,true,true,true,true,false] (by kernel_rfl) (by kernel_rfl) rfl (by kernel_rfl) ?_;iterate 8((first|(refine dU (by rfl) J ?_)|(refine bC (by rfl) J (by intro w' af;obtain⟨bm,bn,bo,bp,br,bs,bt,bu,uK,I8,xZ,JQ,QF,MR⟩:=af;go_simp;rfl) ?_));simp only[Act.put,sA,sZ,sC])
   refine dG (by rfl) (by go_simp) ((Cq E out nx rs G.drew (bZ.out.2.1.below ((Below.refl _ _).drew)) (by have:=F.out.2.1;omega) (aca F.out.1 bZ.out.1.size) l0 l1 k x a z (some ⟨D,H,none⟩) m c).mono ?_);rintro e2 w2 ⟨rfl,N,O⟩;have J2:CX E.base E.cb G w2:=al.trans O;have au:=bP.out _ J2;refine⟨_,rfl,fun _=>au,?_⟩;simp only[Act.put,sA,sZ,sC];refine fT ?_;have zC:=kH (And.intro N J2);clear J al N O J2 au;go_wp2_with fail
   have an:CX E.base E.cb G w2.drew:=zC.out.2.trans (CX.of_below ((Below.refl _ _).drew));have J:=bP.out _ an;refine bF (fun W=>W.cell? ⟨w.heap.size,0,none⟩=some (.pointer (some ⟨E.cb,0,none⟩))/\W.cell? ⟨w.heap.size+1+1,0,none⟩=some (.slice (some ⟨Y,Z,none⟩) I j)/\W.cell? ⟨Y,Z,none⟩=some (.int .i64 l0)/\W.cell? ⟨Y,Z+1,none⟩=some (.int .i64 l1)/\W.cell? ⟨w.heap.size+1,0,none⟩=some (.int .i64 k)/\W.cell? ⟨w.heap.size+1,1,none⟩=some (.string x)/\W.cell? ⟨w.heap.size+1,2,none⟩=some (.int .i64 a)/\W.cell? ⟨w.heap.size+1,3,none⟩=some (.int .i64 z)/\W.cell? ⟨w.heap.size+1,4,none⟩=some (.slice (some ⟨D,H,none⟩) m c)/\W.cell? ⟨D,H,none⟩=some (.int .i64 uk)/\W.cell? ⟨D,H+1,none⟩=some (.string ux)/\W.cell? ⟨D,H+2,none⟩=some (.int .i64 ua)/\W.cell? ⟨D,H+3,none⟩=some (.int .i64 uz)/\W.cell? ⟨D,H+4,none⟩=some (.slice U ul uc)) [] [true,true,true,true,true,true,true,true,true,false] (by kernel_rfl) (by kernel_rfl) rfl (by kernel_rfl) ?_;iterate 9((first|(refine dU (by rfl) J ?_)|(refine bC (by rfl) J (by intro w' af;obtain⟨bm,bn,bo,bp,br,bs,bt,bu,uK,I8,xZ,JQ,QF,MR⟩:=af;go_simp;rfl) ?_));simp only[Act.put,sA,sZ,sC])
   refine dG (by rfl) (by go_simp) ((oh E _ nx rs w2.drew (zC.out.1.below ((Below.refl _ _).drew)) (by have:=F.out.2.1;rw[acm];simp;omega) (aca F.out.1 (bZ.out.1.trans zC.out.2).size) l0 6 0 ⟨#[]⟩ uk ux ua uz U ul uc).mono ?_);rintro e3 f ⟨rfl,N,O⟩;have JZ:CX E.base E.cb G f:=an.trans O;have dQ:=bP.out _ JZ;refine⟨_,rfl,fun _=>dQ,?_⟩;simp only[Act.put,sA,sZ,sC];refine fT ?_;obtain⟨f1,v,f3,S,-⟩:=fI.out f JZ
   have d:Hid (PC E (out++rM t n) nx rs f/\CX E.base E.cb w f/\ah f w.heap.size 113 #[.pointer (some ⟨E.cb,0,none⟩)]/\ah f (w.heap.size+1) 24 #[.int .i64 k,.string x,.int .i64 a,.int .i64 z,.slice (some ⟨D,H,none⟩) m c]/\ah f (w.heap.size+1+1+1+1+1) 108 #[.int .i64 (Nr t),.int .i64 0,.string ⟨#[]⟩]):=kH ⟨by
    rw[tO.out.1];unfold j4 gL fV;simp only[Bool.or_self,Bool.false_or,Bool.or_true,Bool.true_or,if_true,Bool.false_eq_true,if_false];rw[HL.out.1,HL.out.2.1,HL.out.2.2.1,HL.out.2.2.2,F.out.2.2.2.2.1,F.out.2.2.2.2.2.1];rw[List.append_assoc]at N
    exact N,f1,v,f3,by rw[tO.out.2];exact S⟩
   clear J an N O JZ dQ f1 v f3 S;go_wp2_with fail
   go_meet
   exact d
 have M:=hcut;obtain⟨f,rfl⟩:∃W:World,W=wc:=⟨_,rfl⟩
 have e0:=M.out.2.2.1.cell 0;have n0:=M.out.2.2.2.1.cell 0;have n1:=M.out.2.2.2.1.cell 1;have n2:=M.out.2.2.2.1.cell 2;have n3:=M.out.2.2.2.1.cell 3;have n4:=M.out.2.2.2.1.cell 4;have nl:=M.out.2.2.2.1.lt;have j0:=M.out.2.2.2.2.cell 0;have j1:=M.out.2.2.2.2.cell 1;have j2:=M.out.2.2.2.2.cell 2;have hl:=M.out.2.2.2.2.lt;clear hcut s0 i0 i1 i2;go_wp2_with fail
 refine(oh E _ nx rs f M.out.1 (by have:=F.out.2.1;have:=Rx F.out.2.2.1 n;rw[acm];omega) (aca F.out.1 M.out.2.1.size) (n:Int) (Nr t) 0 ⟨#[]⟩ k x a z T m c).mono ?_;rintro e w4 ⟨rfl,N,O⟩
 have d:Hid (PC E (out++(rM t n++[gL n (Nr t) t])) nx rs w4/\CX E.base E.cb w w4):=kH ⟨by
  unfold gL fV;rw[F.out.2.2.2.2.1,F.out.2.2.2.2.2.1];rw[List.append_assoc]at N
  exact N,M.out.2.1.trans O⟩
 clear N O;go_wp2_with fail
 go_end0
 exact⟨rfl,by first|exact d.out.1|(rw[List.append_assoc];exact d.out.1),d.out.2⟩
structure SP (E:CE) (C:CM) (B:Nat) (w:World) (cs:Array Value) (o:List bD) (nx rs:Int) (W:World):Prop where
 pc:PC E o nx rs W
 cx:CX E.base E.cb w W
 bx:ah W w.heap.size 24 cs
 ph:PH E C B W
 cb:E.cb<w.heap.size
 base:E.base<=w.heap.size
section
variable {E:CE}{C:CM}{B:Nat}{w W:World}{cs:Array Value}{o:List bD}{nx rs:Int}
theorem SP.below(h:SP E C B w cs o nx rs W){w':World}(A:Below W.heap.size W w'):SP E C B w cs o nx rs w':=
 ⟨h.pc.below A,h.cx.trans (CX.of_below A),h.bx.below A h.bx.lt,h.ph.cx (CX.of_below A),h.cb,h.base⟩
theorem SP.step(h:SP E C B w cs o nx rs W){w':World}{G:List bD}{A D:Int}(H:PC E G A D w')(F:CX E.base E.cb W w'):SP E C B w cs G A D w':=
 ⟨H,h.cx.trans F,F.blk h.bx (by decide) (by have:=h.cb;omega),h.ph.cx F,h.cb,h.base⟩
theorem SP.le(h:SP E C B w cs o nx rs W):E.base<=W.heap.size:=aca h.base h.cx.size
end
theorem Za(E:CE)(C:CM)(B:Nat)(out:List bD)(nx rs:Int)(w:World)(h:PC E out nx rs w)(hR:PH E C B w)(r:E.base<=w.heap.size)(hC:yD C)(n:Nat)(t:ae)(ht:C.N[n]? =some t)(hk:t.kind=19\/t.kind=27)(T:Option Addr)(c:Nat)(oJ:aD w B T 0 t.kids)
 (V:Option Addr) (j vc lo:Nat) (hO:aG w lo 3 1 (.slice V j vc) j (bL (bR t.kids (n+1)))) (hN:out.length+t.kids.length+4<=1000000):
 Calls Tryz.prog 108 #[.pointer (some ⟨E.cb,0,none⟩),aO t T c,.int .i64 (n:Int),.slice V j vc] w fun e w'=>e= .returned (.tuple #[])/\PC E (out++uS C t n) nx rs w'/\CX E.base E.cb w w':=by
 obtain⟨k,x,a,z,m,ad,hx,ha,hz,hm,dH⟩:=aW t T c;have qj:t.kids.length=j:=by have:=hO.1;rw[Nat.mul_one]at this;unfold bL at this;rw[List.length_map,yY]at this;exact this
 have lc:E.cb<w.heap.size:=by obtain⟨oA,oc,hC,-⟩:=h;exact hC.lt
 obtain⟨W1, a8⟩:=ag (w.alloc (.cells #[.int .i64 k,.string x,.int .i64 a,.int .i64 z,.slice T m c] 24));have L:Below w.heap.size w W1:=by rw[<- a8];exact ai _ _
 have R:Hid (SP E C B w #[.int .i64 k,.string x,.int .i64 a,.int .i64 z,.slice T m c] out nx rs W1):=kH ⟨h.below L,CX.of_below L,by rw[<- a8];exact ah.new _ _ _,hR.cx (CX.of_below L),lc,r⟩;have aE:Hid (aG W1 lo 3 1 (.slice V j vc) j (bL (bR t.kids (n+1)))/\aD W1 B T 0 t.kids/\(Value.slice V j vc).ownBlock≠some E.cb):=kH ⟨hO.below L (fun g hg=>(hO.lt g hg).2),aD.below L hR.bw _ _ _ oJ,by obtain⟨oA,oc,hC,-⟩:=h;exact hO.bB hC (by decide)⟩;have H:Hid (t.kids.length=j/\out.length+t.kids.length+4<=1000000/\t.text=x/\t.at_=a/\t.end_=z/\C.N[n]? =some t/\aO t T c= .agg #[.int .i64 k,.string x,.int .i64 a,.int .i64 z,.slice T m c]):=kH ⟨qj,hN,hx,ha,hz,ht,dH⟩;have HC:=kH hC;rw[dH];obtain⟨hu,hd⟩:=hC.used ht;rcases hd with hd| ⟨q,F,d,y,hd,jr,bX,bj,hy,Yz,cj,bh,a7,JV,-⟩
 ·have bT:uS C t n=[]:=by unfold uS;rw[hd]
  rw[bT]
  have c9:C.us[n]? =some (-1):=by
   rcases hu.cases with h| ⟨q,d,h1,-⟩
   ·exact h.2
   rw[hd]at h1;cases h1
  have HU:=kH (Mo E out nx rs W1 R.out.pc C.us B R.out.ph.bw R.out.ph.us R.out.ph.un n (-1) c9 (by omega));clear h hR r hC oJ hO hN ad hx ha hz hm dH qj lc L ht hk hu hd bT c9;go_in
  go_wp2_with (rw[a8])
  clear a8;refine HU.out.mono ?_;rintro e w2 ⟨rfl,M⟩;have gP:=kH (R.out.below M);have Q:=kH (gP.out.below (ai w2 (.cells #[.int .i64 0,.string ⟨#[]⟩,.int .i64 0,.int .i64 0] 49)));clear M;go_wp2_with fail
  try simp only[Exit.inBlock,Exit.then]
  refine bodyPost_ret (v:=.tuple #[]) (by simp[results,Tryz.results108,go_sem]) rfl ?_;exact⟨rfl,by have h9:=Q.out.pc;simp only[List.append_nil]at h9⊢;exact h9,Q.out.cx⟩
 have Ac:y.kind=3\/y.kind=5:=by
  rcases hk with hk|hk
  ·exact .inr (JV hk)
  exact(a7 hk).2
 rw[L8 hd Yz bj Ac];obtain⟨X,I⟩:∃X,(if y.kind=3 then [fV n 4 0 t.text t] else if t.kind=27/\(kd y 1).kind≠0 then [j4 n (F:Int) t] else [])=X:=⟨_,rfl⟩
 rw[I];rw[ad]at I;have b5:=kH I.symm;clear I;have h5:y.kind=5->y.kids.length=3:=fun h5=>gV (sh:=⟨bO,[bA [6],eU bU,bA [11]],none,0⟩) cj (by rw[h5];rfl) rfl
 have HU:=kH (JC E out nx rs W1 R.out.pc C.us C.ds B R.out.ph.bw R.out.ph.us R.out.ph.un R.out.ph.ds R.out.ph.dn n q d jr bX);obtain⟨dk, ay⟩:=ag d.kind;obtain⟨dx, Aa⟩:=ag d.name;obtain⟨dw, c0⟩:=ag d.owner;rw[ay,Aa,bj,c0]at HU;have HY:Hid (C.N[F]? =some y/\(y.kind=5->y.kids.length=3)/\F+aB y<=200000/\(k=27->dx=x)/\(k=19->y.kind=5)/\(k=19\/k=27)):=kH ⟨hy,h5,(hC.sub F y hy).2,fun e=>by rw[<- Aa,<- hx];exact(a7 (by rw[ad];exact e)).1,fun e=>JV (by rw[ad];exact e),by rw[<- ad];exact hk⟩
 have an:(dk=0/\y.kind=3)\/(dk≠0/\y.kind=5):=by
  rcases Ac with h|h
  ·exact .inl ⟨by rw[<- ay];exact bh.2 h,h⟩
  exact .inr ⟨fun e=>by have:=bh.1 (by rw[ay];exact e);omega,h⟩
 clear h hR r hC oJ hO hN ad hx ha hz hm dH qj lc L ht hk hu hd Yz cj bh a7 JV Ac h5 jr bX bj hy ay Aa c0;go_in
 go_wp2_with (rw[a8])
 clear a8;refine HU.out.mono ?_;rintro e w2 ⟨rfl,M⟩;obtain⟨W3, ax⟩:=ag (w2.alloc (.cells #[.int .i64 dk,.string dx,.int .i64 (F:Int),.int .i64 dw] 49));have bd:Below w2.heap.size w2 W3:=by rw[<- ax];exact ai _ _
 have u:ah W3 w2.heap.size 49 #[.int .i64 dk,.string dx,.int .i64 (F:Int),.int .i64 dw]:=by rw[<- ax];exact ah.new _ _ _
 obtain⟨g8, GV⟩:=ag w2.heap.size;rw[GV]at u;have bp:=(R.out.below M).below bd;have ar:g8≠E.cb:=by have:=bp.cb;have:=R.out.cx.size;have:=M.size;omega
 have a1:CX E.base E.cb W1 W3:=CX.of_below (M.trans (bd.mono M.size));have Q:=kH (And.intro bp (And.intro u (And.intro ar a1)));have d0:=u.cell 0;have d1:=u.cell 1;have d2:=u.cell 2;have dl:=u.lt;have az:=kH (And.intro ax GV);clear M bd u bp ar a1 GV ax d0 d1 d2 dl;go_upto_region 2 with fail
 rw[az.out.1,az.out.2];have d0:=Q.out.2.1.cell 0;have d1:=Q.out.2.1.cell 1;have d2:=Q.out.2.1.cell 2;have dl:=Q.out.2.1.lt;clear az;go_wp2_with fail
 obtain⟨bs,c5,c6,c7,c8⟩:=Q.out.1.ph.rt;refine(Nz E out nx rs W3 Q.out.1.pc bs c5 B Q.out.1.ph.bw c7 c8 F y (by rw[<- c6];exact HY.out.1)).mono ?_;rintro e w4 ⟨Y,yc,rfl,Ub,aa⟩;obtain⟨yk,yx,ya,yz,yn,cf,cm,cl,cn,cg,b6⟩:=aW y Y yc;rw[b6];have aw:=Q.out.1.below aa;obtain⟨W5, ja⟩:=ag (w4.alloc (.cells #[.int .i64 yk,.string yx,.int .i64 ya,.int .i64 yz,.slice Y yn yc] 24));have al:Below w4.heap.size w4 W5:=by rw[<- ja];exact ai _ _
 have vQ:ah W5 w4.heap.size 24 #[.int .i64 yk,.string yx,.int .i64 ya,.int .i64 yz,.slice Y yn yc]:=by rw[<- ja];exact ah.new _ _ _
 obtain⟨Z, b7⟩:=ag w4.heap.size;rw[b7]at vQ;have ca:=aw.below al;have au:aD W5 B Y 0 y.kids:=aD.below al aw.ph.bw _ _ _ Ub;have bG:=Q.out.2.1.below (aa.trans (al.mono aa.size)) Q.out.2.1.lt;have af:Z≠E.cb:=by have:=aw.cb;have:=aw.cx.size;omega
 have a6:CX E.base E.cb W1 W5:=Q.out.2.2.2.trans (CX.of_below (aa.trans (al.mono aa.size)));have G:Hid (SP E C B w #[.int .i64 k,.string x,.int .i64 a,.int .i64 z,.slice T m c] out nx rs W5/\ah W5 g8 49 #[.int .i64 dk,.string dx,.int .i64 (F:Int),.int .i64 dw]/\ah W5 Z 24 #[.int .i64 yk,.string yx,.int .i64 ya,.int .i64 yz,.slice Y yn yc]/\aD W5 B Y 0 y.kids/\Z≠E.cb/\CX E.base E.cb W1 W5):=kH ⟨ca,bG,vQ,au,af,a6⟩;have P:Hid (y.kind=yk/\y.kids.length=yn/\aO y Y yc= .agg #[.int .i64 yk,.string yx,.int .i64 ya,.int .i64 yz,.slice Y yn yc]):=kH ⟨cf,cg,b6⟩;have b8:=kH (And.intro ja b7);clear c5 c6 c7 c8 aa aw al vQ ca au Ub bG af a6 ja b7 cf cm cl cn cg b6 d0 d1 d2 dl;go_upto_region 4 with fail
 rw[b8.out.1,b8.out.2];clear b8;have d0:=G.out.2.1.cell 0;have d1:=G.out.2.1.cell 1;have d2:=G.out.2.1.cell 2;have dl:=G.out.2.1.lt;have y0:=G.out.2.2.1.cell 0;have y1:=G.out.2.2.1.cell 1;have y2:=G.out.2.2.1.cell 2;have y3:=G.out.2.2.1.cell 3;have y4:=G.out.2.2.1.cell 4;have yl:=G.out.2.2.1.lt;have r9:=CO y Y yc F W5 (by have:=HY.out.2.2.1;omega) (aD.mono G.out.1.ph.bw _ _ _ G.out.2.2.2.1);rw[P.out.2.2]at r9;have Dk:=kH r9;clear r9;go_wp2_with fail
 refine Dk.out.mono ?_;rintro e J ⟨NA,nn,nc,rfl,c2,bN,ab⟩;have A:Hid (SP E C B w #[.int .i64 k,.string x,.int .i64 a,.int .i64 z,.slice T m c] out nx rs J/\ah J g8 49 #[.int .i64 dk,.string dx,.int .i64 (F:Int),.int .i64 dw]/\ah J Z 24 #[.int .i64 yk,.string yx,.int .i64 ya,.int .i64 yz,.slice Y yn yc]/\aD J B Y 0 y.kids/\CX E.base E.cb W1 J):=kH ⟨G.out.1.below ab,G.out.2.1.below ab G.out.2.1.lt,G.out.2.2.1.below ab G.out.2.2.1.lt,aD.below ab G.out.1.ph.bw _ _ _ G.out.2.2.2.1,G.out.2.2.2.2.2.trans (CX.of_below ab)⟩;have Hz:Hid (y.kids.length=nn/\aG J W5.heap.size 3 1 (.slice NA nn nc) nn (bL (bR y.kids (F+1)))):=kH ⟨c2,bN⟩;have RX:Hid (aG J lo 3 1 (.slice V j vc) j (bL (bR t.kids (n+1)))/\aD J B T 0 t.kids):=kH ⟨A.out.2.2.2.2.own aE.out.1 (by decide) aE.out.2.2,aD.below (A.out.2.2.2.2.low R.out.ph.bw R.out.ph.cb R.out.ph.base) (ab9 _) _ _ _ aE.out.2.1⟩;have d0:=A.out.2.1.cell 0;have d1:=A.out.2.1.cell 1;have d2:=A.out.2.1.cell 2;have dl:=A.out.2.1.lt;have y0:=A.out.2.2.1.cell 0;have y1:=A.out.2.2.1.cell 1;have y2:=A.out.2.2.1.cell 2;have y3:=A.out.2.2.1.cell 3;have y4:=A.out.2.2.1.cell 4;have yl:=A.out.2.2.1.lt;have b0:=A.out.1.bx.cell 0;have b1:=A.out.1.bx.cell 1;have b2:=A.out.1.bx.cell 2;have b3:=A.out.1.bx.cell 3;have b4:=A.out.1.bx.cell 4;have bl:=A.out.1.bx.lt;clear c2 bN ab;rcases an with⟨rfl,cd⟩| ⟨aq,TZ⟩
 ·rw[P.out.1]at cd
  subst cd;have vP:=Oi E out nx rs J A.out.1.pc t y T Y c yc B A.out.1.ph.bw A.out.1.ph.cb A.out.1.ph.base A.out.1.le RX.out.2 V NA j nn vc nc _ _ _ _ RX.out.1 Hz.out.2 H.out.1 Hz.out.1 (by have:=H.out.2.1;have:=H.out.1;omega);rw[P.out.2.2,H.out.2.2.2.2.2.2]at vP;have zG:=kH vP;clear vP;go_wp2_with fail
  refine zG.out.mono ?_;rintro e w7 ⟨rfl,b,I⟩;have D:=A.out.1.step b I;have b9:=I.blk A.out.2.1 (by decide) Q.out.2.2.1;have F5:=kH D;have d1:=b9.cell 1;have dl:=b9.lt;have b0:=D.bx.cell 0;have b1:=D.bx.cell 1;have b2:=D.bx.cell 2;have b3:=D.bx.cell 3;have b4:=D.bx.cell 4;have bl:=D.bx.lt;clear b I D b9 d0 d2 y0 y1 y2 y3 y4 yl;go_wp2_with fail
  refine(oh E _ nx rs w7 F5.out.pc (by have:=H.out.2.1;have:=H.out.1;have:=qY t.kids (bR t.kids (n+1)) (bR y.kids (F+1)) j;rw[acm];omega) F5.out.le (n:Int) 4 0 dx k x a z T m c).mono ?_;rintro e w8 ⟨rfl,b,I⟩
  have CU:k=27:=by
   rcases HY.out.2.2.2.2.2 with h|h
   ·have:=HY.out.2.2.2.2.1 h
    have:=P.out.1;omega
   exact h
  have S:Hid (PC E (out++(iH t.kids (bR t.kids (n+1)) (bR (oF y F).1.kids ((oF y F).2+1)) t.kids.length++X)) nx rs w8/\CX E.base E.cb w w8):=kH ⟨by
   rw[b5.out,if_pos P.out.1,show oF y F=(y,F) by unfold oF;rw[if_neg (by rw[P.out.1];decide)],H.out.1];unfold fV;rw[H.out.2.2.1,H.out.2.2.2.1,H.out.2.2.2.2.1,<- HY.out.2.2.2.1 CU];rw[List.append_assoc]at b
   exact b,F5.out.cx.trans I⟩
  clear b I CU;go_wp2_with fail
  try simp only[Exit.inBlock,Exit.then]
  refine bodyPost_ret (v:=.tuple #[]) (by simp[results,Tryz.results108,go_sem]) rfl ?_;exact⟨rfl,by first|exact S.out.1|(rw[List.append_assoc];exact S.out.1),S.out.2⟩
 rw[P.out.1]at TZ;subst TZ;have oM:(dk==0)=false:=by simpa using aq
 have br:yn=3:=by rw[<- P.out.2.1];exact HY.out.2.1 P.out.1
 subst br;have bn:nn=3:=by rw[<- Hz.out.1];exact P.out.2.1
 subst bn;obtain⟨K,f,U,uc,hT,bk,u0,u1,u2,u3,u4,Bp⟩:=kZ A.out.2.2.2.1 (gq (i:=0) (by rw[P.out.2.1];omega));obtain⟨cp,cq,U1,Fw,bc,-,p0,-⟩:=kZ A.out.2.2.2.1 (gq (i:=1) (by rw[P.out.2.1];omega));obtain⟨rfl,rfl⟩:K=cp/\f=cq:=by rw[hT]at bc;simpa using bc
 obtain⟨nb,no,nq,c4,-,-,-,bm,c1⟩:=Hz.out.2.form (by omega);simp only[Value.slice.injEq,true_and]at c4;obtain⟨rfl,rfl⟩:=c4;have v0:J.cell? ⟨nb,no,none⟩=some (.int .i64 ((F+1:Nat):Int)):=by simpa using c1 0 (.int .i64 ((F+1:Nat):Int)) (by unfold bL;rw[List.getElem?_map,yZ (by rw[P.out.2.1];omega)];simp[aC])
 obtain⟨uk,ux,ua,uz,ul,nJ,oI,qm,rP,nY,bo⟩:=aW (kd y 0) U uc;rw[nJ,Nat.zero_mul,Nat.add_zero]at u0;rw[oI,Nat.zero_mul,Nat.add_zero]at u1;rw[qm,Nat.zero_mul,Nat.add_zero]at u2;rw[rP,Nat.zero_mul,Nat.add_zero]at u3;rw[nY,Nat.zero_mul,Nat.add_zero]at u4;subst hT;obtain⟨k1, O⟩:=ag ((kd y 1).kind);rw[O,Nat.one_mul]at p0;have av:(Value.slice (some (⟨nb,no,none⟩:Addr)) 3 nc).ownBlock≠some E.cb:=by obtain⟨oA,oc,hC,-⟩:=A.out.1.pc;exact Hz.out.2.bB hC (by decide)
 have fE:∀W,CX E.base E.cb J W->(W.cell? ⟨w.heap.size,0,none⟩=some (.int .i64 k)/\W.cell? ⟨w.heap.size,1,none⟩=some (.string x)/\W.cell? ⟨w.heap.size,2,none⟩=some (.int .i64 a)/\W.cell? ⟨w.heap.size,3,none⟩=some (.int .i64 z)/\W.cell? ⟨w.heap.size,4,none⟩=some (.slice T m c)/\W.cell? ⟨Z,4,none⟩=some (.slice (some ⟨K,f,none⟩) 3 yc)/\W.cell? ⟨nb,no,none⟩=some (.int .i64 ((F+1:Nat):Int))/\W.cell? ⟨K,f,none⟩=some (.int .i64 uk)/\W.cell? ⟨K,f+1,none⟩=some (.string ux)/\W.cell? ⟨K,f+2,none⟩=some (.int .i64 ua)/\W.cell? ⟨K,f+3,none⟩=some (.int .i64 uz)/\W.cell? ⟨K,f+4,none⟩=some (.slice U ul uc))/\W.cell? ⟨K,f+5,none⟩=some (.int .i64 k1)/\w.heap.size<W.heap.size/\Z<W.heap.size/\K<W.heap.size:=fun W hW=>by
  have f1:=hW.blk A.out.1.bx (by decide) (by have:=A.out.1.cb;omega);have f2:=hW.blk A.out.2.2.1 (by decide) G.out.2.2.2.2.1;have e1:∀(o:Nat),W.cell? ⟨K,o,none⟩=J.cell? ⟨K,o,none⟩:=fun o=>(hW.low A.out.1.ph.bw A.out.1.ph.cb A.out.1.ph.base).cell (p:=⟨K,o,none⟩) bk
  exact⟨⟨f1.cell 0,f1.cell 1,f1.cell 2,f1.cell 3,f1.cell 4,f2.cell 4,(hW.Ev Hz.out.2 (by decide) av _).trans v0,(e1 _).trans u0,(e1 _).trans u1,(e1 _).trans u2,(e1 _).trans u3,(e1 _).trans u4⟩,(e1 _).trans p0,f1.lt,f2.lt,Nat.lt_of_lt_of_le bk (aca A.out.1.ph.bw hW.size)⟩
 have bP:=kH fE
 have iR:F+1+aB (kd y 0)<=1000000:=by
  have h1:=dI y.kids 0 _ (gq (by rw[P.out.2.1];omega));have h2:=fe y.kids 1;have h3:=eY y;have h4:=HY.out.2.2.1;simp only[List.take_zero,aC,Nat.zero_add]at h1;omega
 have r9:=fun W (hb:Below J.heap.size J W)=>CO (kd y 0) U uc (F+1) W iR (aD.mono (aca A.out.1.ph.bw hb.size) _ _ _ (aD.below hb A.out.1.ph.bw _ _ _ Bp))
 rw[bo]at r9;have Dk:=kH r9;have zD:Hid ((kd y 1).kind=k1/\aO (kd y 0) U uc= .agg #[.int .i64 uk,.string ux,.int .i64 ua,.int .i64 uz,.slice U ul uc]):=kH ⟨O,bo⟩;have ao:Below J.heap.size J J.drew:=(Below.refl _ _).drew;have bb:=(bP.out _ (CX.of_below ao)).1;clear fE iR r9 bk u0 u1 u2 u3 u4 Bp p0 bc bm c1 v0 nJ oI qm rP nY bo O av d1 d2 y0 y1 y2 y3 y4 b0 b1 b2 b3 b4 aq;go_wp2_with fail
 refine bF (fun W=>W.cell? ⟨w.heap.size,0,none⟩=some (.int .i64 k)/\W.cell? ⟨w.heap.size,1,none⟩=some (.string x)/\W.cell? ⟨w.heap.size,2,none⟩=some (.int .i64 a)/\W.cell? ⟨w.heap.size,3,none⟩=some (.int .i64 z)/\W.cell? ⟨w.heap.size,4,none⟩=some (.slice T m c)/\W.cell? ⟨Z,4,none⟩=some (.slice (some ⟨K,f,none⟩) 3 yc)/\W.cell? ⟨nb,no,none⟩=some (.int .i64 ((F+1:Nat):Int))/\W.cell? ⟨K,f,none⟩=some (.int .i64 uk)/\W.cell? ⟨K,f+1,none⟩=some (.string ux)/\W.cell? ⟨K,f+2,none⟩=some (.int .i64 ua)/\W.cell? ⟨K,f+3,none⟩=some (.int .i64 uz)/\W.cell? ⟨K,f+4,none⟩=some (.slice U ul uc)) [] [true,true,true,true,true,true,true,true,true,true,true,true,true,true,false,false] (by kernel_rfl) (by kernel_rfl) rfl (by kernel_rfl) ?_;iterate 14((first|(refine dU (by rfl) bb ?_)|(refine bC (by rfl) bb (by intro w' ck;obtain⟨cr,ct,cu,cv,cw,cy,cz,cA,uK,I8,xZ,JQ⟩:=ck;go_simp;rfl) ?_));simp only[Act.put,sA,sZ,sC])
 refine dG (by rfl) (by go_simp) ((Dk.out _ ao).mono ?_);rintro e2 w7 ⟨MA,mn,mc,rfl,DT,bM,jP⟩;have tu:Below J.heap.size J w7:=ao.trans (jP.mono ao.size);have FV:=(bP.out _ (CX.of_below tu)).1;refine⟨_,rfl,fun _=>FV,?_⟩;simp only[Act.put,sA,sZ,sC];have D:=A.out.1.below tu;have vP:=Oi E out nx rs w7 D.pc t (kd y 0) T U c uc B D.ph.bw D.ph.cb D.ph.base D.le (aD.below tu A.out.1.ph.bw _ _ _ RX.out.2) V MA j mn vc mc _ _ _ _ (RX.out.1.below tu (fun g hg=>(RX.out.1.lt g hg).2)) bM H.out.1 DT (by have:=H.out.2.1;have:=H.out.1;omega);rw[zD.out.2,H.out.2.2.2.2.2.2]at vP;refine dG (by rfl) (by go_simp) (vP.mono ?_);rintro e3 w8 ⟨rfl,b,I⟩;have xM:=bP.out _ ((CX.of_below tu).trans I);refine⟨_,rfl,fun _=>xM.1,?_⟩;simp only[Act.put,sA,sZ,sC];refine fT ?_;have cc:=D.step b I;have ba:=I.blk (A.out.2.1.below tu A.out.2.1.lt) (by decide) Q.out.2.2.1;have Ae:=kH cc;obtain⟨⟨b0,b1,b2,b3,b4,y4,-⟩,p0,bl,yl,pl⟩:=xM;have d2:=ba.cell 2;have dl:=ba.lt;clear bb ao bM jP tu FV D vP b I cc ba DT;have bt:Hid (iH t.kids (bR t.kids (n+1)) (bR (oF y F).1.kids ((oF y F).2+1)) t.kids.length=iH t.kids (bR t.kids (n+1)) (bR (kd y 0).kids (F+1+1)) j):=kH (by rw[show oF y F=(kd y 0,F+1) by unfold oF;rw[if_pos P.out.1],H.out.1]);by_cases CU:k=27/\k1≠0
 ·obtain⟨rfl,O⟩:=CU
  have L:(k1 !=0)=true:=by simpa using O
  go_wp2_with fail
  refine(Cq E _ nx rs w8 Ae.out.pc (by have:=H.out.2.1;have:=H.out.1;have:=qY t.kids (bR t.kids (n+1)) (bR (kd y 0).kids (F+1+1)) j;rw[acm];omega) Ae.out.le (n:Int) (F:Int) 27 x a z T m c).mono ?_;rintro e w9 ⟨rfl,b,I⟩
  have S:Hid (PC E (out++(iH t.kids (bR t.kids (n+1)) (bR (oF y F).1.kids ((oF y F).2+1)) t.kids.length++X)) nx rs w9/\CX E.base E.cb w w9):=kH ⟨by
   rw[b5.out,if_neg (by rw[P.out.1];decide),if_pos ⟨by first|rfl|trivial,by rw[zD.out.1];exact O⟩,bt.out];unfold j4;rw[H.out.2.2.2.1,H.out.2.2.2.2.1];rw[List.append_assoc]at b
   exact b,Ae.out.cx.trans I⟩
  clear b I;go_wp2_with fail
  go_end0
  exact⟨rfl,by first|exact S.out.1|(rw[List.append_assoc];exact S.out.1)|simpa using S.out.1,S.out.2⟩
 have S:Hid (PC E (out++(iH t.kids (bR t.kids (n+1)) (bR (oF y F).1.kids ((oF y F).2+1)) t.kids.length++X)) nx rs w8/\CX E.base E.cb w w8):=kH ⟨by
  rw[b5.out,if_neg (by rw[P.out.1];decide),if_neg (by rw[zD.out.1];exact CU),bt.out,List.append_nil]
  exact Ae.out.pc,Ae.out.cx⟩
 by_cases bu:k=27
 ·have O:k1=0:=Classical.byContradiction fun e=>CU ⟨bu,e⟩
  subst O;subst bu;go_wp2_with fail
  go_end0
  exact⟨rfl,by first|exact S.out.1|simpa using S.out.1,S.out.2⟩
 go_wp2_with fail
 go_end0
 exact⟨rfl,by first|exact S.out.1|simpa using S.out.1,S.out.2⟩
theorem PC.cell9{E:CE}{o:List bD}{nx rs:Int}{W:World}(h:PC E o nx rs W)(v:Int):PC E o v rs (W.setCell ⟨E.cb,9,none⟩ (.int .i64 v)):=by
 obtain⟨F,G,A,D⟩:=h;exact⟨F,G,by simpa using A.dB 9 (.int .i64 v),D.setCell (by exact D.bB A (by decide)) _⟩
theorem PC.cell10{E:CE}{o:List bD}{nx rs:Int}{W:World}(h:PC E o nx rs W)(v:Int):PC E o nx v (W.setCell ⟨E.cb,10,none⟩ (.int .i64 v)):=by
 obtain⟨F,G,A,D⟩:=h;exact⟨F,G,by simpa using A.dB 10 (.int .i64 v),D.setCell (by exact D.bB A (by decide)) _⟩
theorem CX.setc{base A:Nat}{w w':World}(h:CX base A w w')(i:Nat)(v:Value):CX base A w (w'.setCell ⟨A,i,none⟩ v):=h.trans ((ak.refl _ _).setCell (.inl (.inl rfl)) v)
theorem DL{p:Prop}[Decidable p]{a b:List bD}{m:Nat}(A:a.length<=m)(D:b.length<=m):(if p then a else b).length<=m:=by
 split
 ·exact A
 exact D
theorem Zb(C:CM)(t:ae)(n:Nat):(uS C t n).length<=t.kids.length+1:=by
 unfold uS;split
 ·simp
 refine DL ?_ ?_
 ·rw[acm]
  exact Nat.add_le_add (qY _ _ _ _) (by simp)
 rw[acm];exact Nat.add_le_add (qY _ _ _ _) (DL (by simp) (by simp))
theorem Ny(C:CM)(t:ae)(n:Nat)(r:Int):(bH C t n r).length<=t.kids.length+3:=by
 have K:=Ii C n (kd t 0);have L:=Ii C n (kd t 1);have G:=Zb C t n;have F:=Dz t n 1;have I:=Dz t n 2;have J:=Dz t n (Ky t)
 have H:(BF t n).length<=t.kids.length+3:=by
  unfold BF;repeat' (first|refine DL ?_ ?_|(simp only[acm,aco,List.length_nil];omega))
 have A:(match oW C n with|some d=>[j4 n d.node t]|none=>[]).length<=t.kids.length+3:=by
  split<;>simp
 have D:(match oW C n with|some d=>[fV (nk t n 0) 4 0 (Ad C d.owner).text t,j4 n d.node t]|none=>[]).length<=t.kids.length+3:=by
  split<;>simp
 unfold bH;repeat' (first|refine DL ?_ ?_|omega|(simp only[acm,aco,List.length_nil];omega))
 rw[acm,F];have:(if t.kids.length<=8 then [fV n 3 t.kids.length ⟨#[]⟩ t] else []).length<=1:=DL (by simp) (by simp);omega
theorem JH(C:CM):∀(L:List ae) (n:Nat) (r:Int),(jD C L n r).1.length<=(L.map fun t=>t.kids.length+3).sum
 | [],n,r=>ab9 _
 | t::L,n,r=>by
  rw[jD,acm,List.map_cons,List.sum_cons];have:=Ny C t n (kT t n r);have:=JH C L (n+1) (kT t n r);omega
mutual
theorem Z6:∀(t:ae),((aM t).map fun t=>t.kids.length+3).sum+1=4*aB t
 | .node k x a e kids=>by
  rw[aM,List.map_cons,List.sum_cons,aB];have:=BP kids;show kids.length+3+_+1=_;omega
theorem BP:∀(ts:List ae),((bg ts).map fun t=>t.kids.length+3).sum+ts.length=4*aC ts
 | []=>rfl
 | t::ts=>by
  rw[bg,List.map_append,List.sum_append,aC,aco];have:=Z6 t;have:=BP ts;omega
end
def rY(C:CM)(t:ae)(n:Nat)(r:Int)(i:Nat):List bD×Int:=jD C (bg (t.kids.take i)) (n+1) r
theorem XG(C:CM){t:ae}(n:Nat)(r:Int){i:Nat}(A:i<t.kids.length):rY C t n r (i+1)=((rY C t n r i).1++(jD C (aM (kd t i)) (n+1+aC (t.kids.take i)) (rY C t n r i).2).1,(jD C (aM (kd t i)) (n+1+aC (t.kids.take i)) (rY C t n r i).2).2):=by
 unfold rY;rw[uJ t.kids i _ (gq A),yJ,mK]
theorem aad(C:CM)(t:ae)(n:Nat)(r:Int):jD C (aM t) n r=(bH C t n (kT t n r)++(rY C t n (kT t n r) t.kids.length).1,(rY C t n (kT t n r) t.kids.length).2):=by
 unfold rY;rw[iK,jD,List.take_length]
theorem aac(C:CM){t:ae}(n:Nat)(r:Int){i:Nat}(F:i<t.kids.length):(rY C t n r i).1.length+4*aB (kd t i)+t.kids.length<=4*aC t.kids+1:=by
 have G:=JH C (bg (t.kids.take i)) (n+1) r;have A:=BP (t.kids.take i);rw[List.length_take,Nat.min_eq_left (by omega)]at A;have H:=dI t.kids i _ (gq F)
 have I:aC (t.kids.take (i+1))+aC (t.kids.drop (i+1))=aC t.kids:=by
  have:=congrArg List.length (uP (t.kids.take (i+1)) (t.kids.drop (i+1)));rw[List.take_append_drop,acm,mK,mK,mK]at this;exact this.symm
 have D:=dO (t.kids.drop (i+1));rw[List.length_drop]at D;unfold rY;omega
def abL(E:CE)(C:CM)(B:Nat)(sz:Nat):Prop:=∀(t:ae) (n:Nat) (rs:Int) (out:List bD) (w:World) (T:Option Addr) (c:Nat),aB t<=sz->PC E out (n:Int) rs w->PH E C B w->E.base<=w.heap.size->C.N[n]? =some t->aD w B T 0 t.kids->out.length+4*aB t+8<=1000000 ->
 Calls Tryz.prog 61 #[.pointer (some ⟨E.cb,0,none⟩),aO t T c] w fun e w'=>e= .returned (.tuple #[])/\PC E (out++(jD C (aM t) n rs).1) ((n+aB t:Nat):Int) (jD C (aM t) n rs).2 w'/\CX E.base E.cb w w'
end Go.Proofs.YtoepemlnlpamlaaGreat
namespace Go.Proofs.YtoepemlnlpamlaaGreat
mutual
theorem Nt:∀(t:ae) (m:Nat) (z:ae),(aM t)[m]? =some z->(∀(j:Nat) (y:ae),(aM z)[j]? =some y->(aM t)[m+j]? =some y)/\m+aB z<=aB t
 | .node k x a e kids,m,z,h=>by
  cases m with
  | zero=>
   rw[aM]at h;have F:ae.node k x a e kids=z:=Option.some.inj h;subst F;exact⟨fun j y A=>by rw[Nat.zero_add];exact A,by omega⟩
  | succ m=>
   rw[aM,aci]at h;obtain⟨D,G⟩:=KT kids m z h;refine⟨fun j y A=>?_,by rw[aB];omega⟩;rw[aM,show m+1+j=(m+j)+1 by omega,aci];exact D j y A
theorem KT:∀(ts:List ae) (m:Nat) (z:ae),(bg ts)[m]? =some z->(∀(j:Nat) (y:ae),(aM z)[j]? =some y->(bg ts)[m+j]? =some y)/\m+aB z<=aC ts
 | [],m,z,h=>by rw[bg]at h;cases h
 | t::ts,m,z,h=>by
  rw[bg]at h;by_cases F:m<(aM t).length
  ·rw[List.getElem?_append_left F]at h
   obtain⟨D,H⟩:=Nt t m z h;refine⟨fun j y G=>?_,by rw[aC];omega⟩;have A:=D j y G;rw[bg,List.getElem?_append_left (acg.1 A).1];exact A
  rw[ack (by omega)]at h;obtain⟨D,H⟩:=KT ts _ z h;have I:=eZ t;refine⟨fun j y G=>?_,by rw[aC];omega⟩;have A:=D j y G;rw[bg,ack (by omega),show m+j - (aM t).length=m - (aM t).length+j by omega];exact A
end
def mI(t:ae):CM:=⟨aM t,jc t.kids,(aZ t).ds,(aZ t).uses⟩
theorem Y7{t:ae}(A:dC t=true)(G:aB t<=200000)(J:(aZ t).uses.length=aB t):yD (mI t) where
 len:=by show(aM t).length<=200000;rw[eZ];exact G
 ul:=by show(aZ t).uses.length=(aM t).length;rw[eZ];exact J
 sh:=fun y D=>by
  unfold dC at A;rw[acb]at A;exact List.all_eq_true.1 (show(aM t).all dJ=true from A.2) y D
 sub:=fun m z I=>by
  obtain⟨F,K⟩:=Nt t m z I;exact⟨F,by omega⟩
 use:=fun i u y H D=>uses_ok A H D
def xw(C:CM)(i p:Nat):Prop:=(∃(j:Nat) (z:ae),j<i/\C.N[j]? =some z/\z.kind=5)->∃z,C.N[p]? =some z/\z.kind=5/\(jD C (C.N.take i) 0 (-1)).2=if (kd z 1).kind≠0 then(p:Int) else -1
theorem Nq(C:CM){i:Nat}{y:ae}(A:C.N[i]? =some y):jD C (C.N.take (i+1)) 0 (-1)=((jD C (C.N.take i) 0 (-1)).1++bH C y i (kT y i (jD C (C.N.take i) 0 (-1)).2),kT y i (jD C (C.N.take i) 0 (-1)).2):=by
 have D:(C.N.take i).length=i:=by rw[List.length_take];have:=(acg.1 A).1;omega
 rw[JE A,yJ,D,Nat.zero_add];simp[jD]
theorem xw.zero(C:CM):xw C 0 0:=fun⟨_,_,h,_⟩=>absurd h (Nat.not_lt_zero _)
theorem xw.step{C:CM}{i p:Nat}(h:xw C i p){y:ae}(D:C.N[i]? =some y):xw C (i+1) (if y.kind=5 then i else p):=by
 intro ⟨j,z,I,F,G⟩;rw[Nq C D];show ∃z,_/\_/\kT y i _=_;unfold kT;by_cases A:y.kind=5
 ·rw[if_pos A,if_pos A]
  exact⟨y,D,A,rfl⟩
 rw[if_neg A,if_neg A];refine h ⟨j,z,?_,F,G⟩;by_cases H:j=i
 ·subst H
  rw[D]at F;cases F
  exact absurd G A
 omega
theorem xw.ret{t:ae}(H:dC t=true){i p:Nat}(h:xw (mI t) i p){y:ae}(I:(mI t).N[i]? =some y):abN (mI t) y (if y.kind=5 then i else p) (kT y i (jD (mI t) ((mI t).N.take i) 0 (-1)).2):=by
 intro G;obtain⟨j,z,F,J,D⟩:=aae H I G;have A:¬y.kind=5:=by omega
 unfold kT;rw[if_neg A,if_neg A];exact h ⟨j,z,F,J,D⟩
end Go.Proofs.YtoepemlnlpamlaaGreat
