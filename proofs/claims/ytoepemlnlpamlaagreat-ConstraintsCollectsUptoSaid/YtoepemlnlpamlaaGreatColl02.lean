/- Collect agrees with the reference. Part 2: LexN LexO TypM Shp1 Shp2 Typ1 NamM Shelf Sort NamW Nam1 Nam2 TreeAt Tr3 Nam3. -/
import Derived.Deep.CutBlock
import Derived.Shelf.Sort.Plain
import Derived.Shelf.Slices.In.SortNone
import Derived.Test.YtoepemlnlpamlaaGreatColl01
set_option maxRecDepth 100000
set_option maxHeartbeats 4000000
namespace Go.Proofs.YtoepemlnlpamlaaGreat
open Go.RowKit
theorem I4(c:Nat)(w:World):Calls Tryz.prog 91 #[.int .u8 (c:Int)] w fun e w'=>e= .returned (.bool (j6 c))/\w=w':=by
 by_cases A:97<=c
 ·have B:(97:Int)<=(c:Int):=by omega
  by_cases D:c<=122
  ·have C:(c:Int)<=122:=by omega
   go_in
   go_wp2
   go_ret
   exact⟨bE (by simp[j6,A,D]),rfl⟩
  have C:¬(c:Int)<=122:=by omega
  go_in
  go_wp2
  go_ret
  exact⟨bE (by simp[j6,A,D]),rfl⟩
 have B:¬(97:Int)<=(c:Int):=by omega
 go_in
 go_wp2
 go_ret
 exact⟨bE (by simp[j6,A]),rfl⟩
theorem LW(c:Nat)(w:World):Calls Tryz.prog 95 #[.int .u8 (c:Int)] w fun e w'=>e= .returned (.bool (eH c))/\w=w':=by
 by_cases A:48<=c
 ·have B:(48:Int)<=(c:Int):=by omega
  by_cases D:c<=57
  ·have C:(c:Int)<=57:=by omega
   go_in
   go_wp2
   go_ret
   exact⟨bE (by simp[eH,A,D]),rfl⟩
  have C:¬(c:Int)<=57:=by omega
  go_in
  go_wp2
  go_ret
  exact⟨bE (by simp[eH,A,D]),rfl⟩
 have B:¬(48:Int)<=(c:Int):=by omega
 go_in
 go_wp2
 go_ret
 exact⟨bE (by simp[eH,A]),rfl⟩
theorem id_any(c:Nat)(w:World):Calls Tryz.prog 94 #[.int .u8 (c:Int)] w fun e w'=>e= .returned (.bool (xH c))/\w=w':=by
 have F:=I4 c;have D:=LW c;obtain⟨H, A⟩:=ag (j6 c);obtain⟨I, B⟩:=ag (eH c);have G:xH c=(H || I || decide (c=95)):=by unfold xH;rw[A,B]
 rw[A]at F;rw[B]at D;have L:=kH F;have J:=kH D;have N:((c:Int)==95)=decide (c=95):=by rw[Bool.eq_iff_iff];simp;omega
 obtain⟨O, C⟩:=ag (decide (c=95));rw[C]at N G;rw[G];clear F D A B C G;go_in
 go_wp2_with fail
 refine(L.out w).mono ?_;rintro e w' ⟨rfl,rfl⟩;cases H
 case true=>
  go_wp2_with fail
  go_ret
  exact⟨bE (by simp),rfl⟩
 go_wp2_with fail
 refine(J.out w).mono ?_;rintro e w' ⟨rfl,rfl⟩;cases I
 case true=>
  go_wp2_with fail
  go_ret
  exact⟨bE (by simp),rfl⟩
 go_wp2_with fail
 go_ret
 exact⟨bE (by simp),rfl⟩
def Vr:List (ByteArray×Value):=Qu.map fun b=>(sP b,.bool true)
theorem Qz(w:World):Calls Tryz.prog 166 #[] w fun e w'=>e= .returned (.map (some w.heap.size))/\aY jS w' w.heap.size Vr/\Below w.heap.size w w':=by
 have F:=@run_makeMap Tryz.prog;have C:aY jS (w.alloc (.map #[] 0)) w.heap.size []:=aY.made w;have D:Below w.heap.size w (w.alloc (.map #[] 0)):=ai _ _;go_in
 go_wp2_with (refine uW (KK:=jS) _ rfl _ _ _ 55 rfl 9 4 Tryz.underlying55 Tryz.underlying9 w.heap.size _ _ _ rfl rfl rfl (by assumption) (by assumption) (ab9 _) ?_;intro w1 B A)
 refine bodyPost_ret (v:=.map (some w.heap.size)) (by simp[results,Tryz.results166,go_sem]) rfl ?_;refine⟨rfl,Eq.mp (congrArg (aY jS w1 _) ?_) B,A⟩;kernel_rfl
theorem Xg(w:World):(zeroValue 4).run Tryz.prog w= .ok (.bool false) w:=by go_simp
theorem QA(s:ByteArray)(w:World):Calls Tryz.prog 92 #[.string s] w fun e w'=>e= .returned (.bool (I6 s.data.toList))/\Below w.heap.size w w':=by
 have A:∀(w':World) (r:Nat),aY jS w' r Vr->(Instr.lookup 55 (.map (some r)) (.string s) false).run Tryz.prog w'= .ok (.bool (I6 s.data.toList)) w':=fun w' r h=>by
  have:=zJ (P:=Tryz.prog) (KK:=jS) (t:=55) (kt:=9) (et:=4) Tryz.underlying55 Tryz.underlying9 Xg h s;rw[show mM Vr s=_ from SY (.bool true) Qu s]at this;refine Eq.trans this ?_;unfold I6;cases wW Qu s.data.toList<;>rfl
 have F:=kH A;clear A;go_in
 go_wp2_with fail
 refine(Qz w).mono ?_;rintro e w1 ⟨rfl,D,B⟩;have C:=F.out w1 _ D;go_wp2_with fail
 go_ret
 exact⟨rfl,B⟩
theorem run_id(s:ByteArray)(w:World)(O:s.size<=60000):
 Calls Tryz.prog 93 #[.string s,.int .i64 0,.func (Fn.func 94) #[] #[]] w fun e w'=>e= .returned (.int .i64 (jU (fun i=>xH (bz s.data.toList i)) s.data.toList s.size 0:Nat))/\w=w':=by
 go_in
 go_wp2_with fail
 go_loopg [1] s.size (fun gk s1 wr=> ∃k:Nat,k+gk=s.size/\s1= .int .i64 (k:Int)/\jU (fun i=>xH (bz s.data.toList i)) s.data.toList s.size 0=jU (fun i=>xH (bz s.data.toList i)) s.data.toList gk k/\w=wr)
 case atStart=>exact⟨0,by omega,rfl,rfl,rfl⟩
 obtain⟨k,N,rfl,B,rfl⟩:=hrel;have H:=kH B;clear B
 cases gk with
 | zero=>
  have G:k=s.size:=by omega
  subst G;go_wp2_with fail
  go_ret
  exact⟨by rw[H.out];rfl,rfl⟩
 | succ gk=>
  have A:k<s.size:=by omega
  have J:(k:Int)<(s.size:Int):=by omega
  have L:IntKind.i64.wrap ((k:Int)+1)=(k:Int)+1:=IntWalk.i64_in _ (by omega);obtain⟨b, F⟩:=ag (xH (bz s.data.toList k));have D:=id_any (s[k]'A).toNat;rw[oQ s k A,F]at D;rw[<- oQ s k A]at D;have I:=kH D
  have C:Hid (jU (fun i=>xH (bz s.data.toList i)) s.data.toList s.size 0=if b=true then jU (fun i=>xH (bz s.data.toList i)) s.data.toList gk (k+1) else k):=kH (by
   rw[H.out,jU,dN,F,decide_eq_true A]
   simp)
  clear D H F;cases b
  ·go_wp2_with (go_at_call 94;refine(I.out _).mono ?_;rintro e w' ⟨rfl,rfl⟩)
   go_ret
   exact⟨by rw[C.out];rfl,rfl⟩
  go_wp2_with (go_at_call 94;refine(I.out _).mono ?_;rintro e w' ⟨rfl,rfl⟩)
  go_roundg gk
  case measure=>omega
  exact⟨k+1,by omega,by simp,by rw[C.out];rfl,rfl⟩
theorem Np(s:ByteArray)(w:World)(O:s.size<=60000):
 Calls Tryz.prog 93 #[.string s,.int .i64 0,.func (Fn.func 95) #[] #[]] w fun e w'=>e= .returned (.int .i64 (jU (fun i=>eH (bz s.data.toList i)) s.data.toList s.size 0:Nat))/\w=w':=by
 go_in
 go_wp2_with fail
 go_loopg [1] s.size (fun gk s1 wr=> ∃k:Nat,k+gk=s.size/\s1= .int .i64 (k:Int)/\jU (fun i=>eH (bz s.data.toList i)) s.data.toList s.size 0=jU (fun i=>eH (bz s.data.toList i)) s.data.toList gk k/\w=wr)
 case atStart=>exact⟨0,by omega,rfl,rfl,rfl⟩
 obtain⟨k,N,rfl,B,rfl⟩:=hrel;have H:=kH B;clear B
 cases gk with
 | zero=>
  have G:k=s.size:=by omega
  subst G;go_wp2_with fail
  go_ret
  exact⟨by rw[H.out];rfl,rfl⟩
 | succ gk=>
  have A:k<s.size:=by omega
  have J:(k:Int)<(s.size:Int):=by omega
  have L:IntKind.i64.wrap ((k:Int)+1)=(k:Int)+1:=IntWalk.i64_in _ (by omega);obtain⟨b, F⟩:=ag (eH (bz s.data.toList k));have D:=LW (s[k]'A).toNat;rw[oQ s k A,F]at D;rw[<- oQ s k A]at D;have I:=kH D
  have C:Hid (jU (fun i=>eH (bz s.data.toList i)) s.data.toList s.size 0=if b=true then jU (fun i=>eH (bz s.data.toList i)) s.data.toList gk (k+1) else k):=kH (by
   rw[H.out,jU,dN,F,decide_eq_true A]
   simp)
  clear D H F;cases b
  ·go_wp2_with (go_at_call 95;refine(I.out _).mono ?_;rintro e w' ⟨rfl,rfl⟩)
   go_ret
   exact⟨by rw[C.out];rfl,rfl⟩
  go_wp2_with (go_at_call 95;refine(I.out _).mono ?_;rintro e w' ⟨rfl,rfl⟩)
  go_roundg gk
  case measure=>omega
  exact⟨k+1,by omega,by simp,by rw[C.out];rfl,rfl⟩
theorem sS(s:ByteArray):s.toList.isEmpty=decide (s.size=0):=by
 rw[ByteArray.toList_eq,Bool.eq_iff_iff];obtain⟨⟨l⟩⟩:=s;simp[ByteArray.size]
theorem X5(s:ByteArray)(w:World):Calls Tryz.prog 53 #[.string s] w fun e w'=>e= .returned (.bool (qA s.data.toList))/\Below w.heap.size w w':=by
 have A:=sS s;by_cases G:s.size=0
 ·have X:s.toList.isEmpty=true:=by rw[A];simp[G]
  have B:qA s.data.toList=false:=by unfold qA;rw[dN,G];rfl
  rw[B];clear A G B;go_in
  go_wp2_with fail
  go_ret
  exact⟨rfl,Below.refl _ _⟩
 have X:s.toList.isEmpty=false:=by rw[A];simp[G]
 by_cases H:16<s.size
 ·have I:(16:Int)<(s.size:Int):=by omega
  have B:qA s.data.toList=false:=by unfold qA;rw[dN,decide_eq_false (p:=s.size<=16) (by omega)];simp
  rw[B];clear A G B H;go_in
  go_wp2_with fail
  go_ret
  exact⟨rfl,Below.refl _ _⟩
 have I:¬(16:Int)<(s.size:Int):=by omega
 have P:0<s.size:=by omega
 have Y:(0:Int)<(s.size:Int):=by omega
 have Q:s.size<=60000:=by omega
 obtain⟨J, C⟩:=ag (j6 (bz s.data.toList 0));obtain⟨R, D⟩:=ag (I6 s.data.toList);obtain⟨n, O⟩:=ag (jU (fun i=>xH (bz s.data.toList i)) s.data.toList s.size 0)
 have B:qA s.data.toList=(J&& !R&&decide (n=s.size)):=by
  unfold qA nI;rw[dN,C,D,O,decide_eq_true (p:=1<=s.size) (by omega),decide_eq_true (p:=s.size<=16) (by omega)];cases J<;>simp
 rw[B];have N:=I4 (s[0]'P).toNat;rw[oQ s 0 P,C,<- oQ s 0 P]at N;have L:=QA s;rw[D]at L;have F:=fun w=>run_id s w Q
 rw[O]at F;have U:=kH N;have T:=kH L;have W:=kH F;clear B C D O N L F H G A;go_in
 go_wp2_with fail
 refine(U.out w).mono ?_;rintro e w' ⟨rfl,rfl⟩;cases J
 ·go_wp2_with fail
  go_ret
  exact⟨rfl,Below.refl _ _⟩
 go_wp2_with fail
 refine(T.out w).mono ?_;rintro e w1 ⟨rfl,S⟩;cases R
 case true=>
  go_wp2_with fail
  go_ret
  exact⟨rfl,S⟩
 go_wp2_with fail
 refine(W.out w1).mono ?_;rintro e w' ⟨rfl,rfl⟩;go_wp2_with fail
 go_ret
 refine⟨bE ?_,S⟩;rw[Bool.eq_iff_iff];simp;omega
theorem Qo:∀(s:kM) (n k:Nat) (t:kM),t=s.drop k->k<=s.length->(rZ t n).isSome=decide (jU (fun i=>eH (bz s i)) s (s.length - k) k=s.length):=by
 intro s n k t
 induction t generalizing n k with
 | nil=>
  intro h H
  have:k=s.length:=by
   have C:=congrArg List.length h;simp at C;omega
  subst this;simp[rZ,jU]
 | cons c t ih=>
  intro h H
  have A:k<s.length:=by
   have C:=congrArg List.length h;simp at C;omega
  have G:s[k]? =some c/\t=s.drop (k+1):=by
   have F:=List.drop_eq_getElem_cons A;rw[<- h]at F;injection F with h4 h5
   exact⟨by rw[h4];exact ace A,h5⟩
  have D:bz s k=c.toNat:=by unfold bz;rw[List.getD_eq_getElem?_getD,G.1];rfl
  obtain⟨m,I⟩:∃m,s.length - k=m+1:=⟨s.length - k - 1,by omega⟩
  rw[I];unfold rZ jU;rw[D,decide_eq_true A,Bool.true_and];by_cases B:eH c.toNat=true
  ·rw[if_pos B,if_pos B,ih _ (k+1) G.2 A]
   rw[show s.length - (k+1)=m by omega]
  rw[if_neg B,if_neg B];simp;omega
theorem SS(s:ByteArray)(w:World):Calls Tryz.prog 172 #[.string s] w fun e w'=> ∃n,e= .returned (.tuple #[.int .i64 n,.bool (dE s.data.toList).isSome])/\Below w.heap.size w w':=by
 have B:=sS s;by_cases G:s.size=0
 ·have l:s.toList.isEmpty=true:=by rw[B];simp[G]
  have C:(dE s.data.toList).isSome=false:=by unfold dE;rw[dN,G];rfl
  rw[C];clear B G C;go_in
  go_wp2_with fail
  refine bodyPost_ret (v:=.tuple #[.int .i64 0,.bool false]) (by simp[results,Tryz.results172,go_sem]) rfl ?_;exact⟨0,rfl,Below.refl _ _⟩
 have l:s.toList.isEmpty=false:=by rw[B];simp[G]
 by_cases U:9<s.size
 ·have X:(9:Int)<(s.size:Int):=by omega
  have C:(dE s.data.toList).isSome=false:=by unfold dE;rw[dN,if_pos (.inr U)];rfl
  rw[C];clear B G C U;go_in
  go_wp2_with fail
  refine bodyPost_ret (v:=.tuple #[.int .i64 0,.bool false]) (by simp[results,Tryz.results172,go_sem]) rfl ?_;exact⟨0,rfl,Below.refl _ _⟩
 have X:¬(9:Int)<(s.size:Int):=by omega
 have z:s.size<=60000:=by omega
 obtain⟨n, T⟩:=ag (jU (fun i=>eH (bz s.data.toList i)) s.data.toList s.size 0)
 have C:(dE s.data.toList).isSome=decide (n=s.size):=by
  unfold dE;rw[dN,if_neg (by omega),Qo s.data.toList 0 0 s.data.toList rfl (Nat.zero_le _),dN];rw[show s.size - 0=s.size from rfl,T]
 rw[C];have F:=fun w=>Np s w z
 rw[T]at F
 have O:n<=s.size:=by
  rw[<- T]
  have:∀(f a:Nat),a<=s.data.toList.length->jU (fun i=>eH (bz s.data.toList i)) s.data.toList f a<=s.data.toList.length:=by
   intro f
   induction f with
   | zero=>intro a h;exact h
   | succ f ih=>
    intro a h;unfold jU;split
    ·rename_i S
     simp at S;exact ih _ (by simp;omega)
    exact h
  have S:=this s.size 0 (Nat.zero_le _);rw[dN]at S;exact S
 have x:=kH F;clear C T F U G B;by_cases Q:n<s.size
 ·have R:(n:Int)<(s.size:Int):=by omega
  have L:decide (n=s.size)=false:=decide_eq_false (by omega);rw[L];clear Q L O;go_in
  go_wp2_with fail
  refine(x.out w).mono ?_;rintro e w' ⟨rfl,rfl⟩;go_wp2_with fail
  refine bodyPost_ret (v:=.tuple #[.int .i64 0,.bool false]) (by simp[results,Tryz.results172,go_sem]) rfl ?_;exact⟨0,rfl,Below.refl _ _⟩
 have R:¬(n:Int)<(s.size:Int):=by omega
 have L:decide (n=s.size)=true:=decide_eq_true (by omega);rw[L];have J:=run_bytes_of_string (P:=Tryz.prog) w 9 254 5 s Tryz.underlying9 Tryz.underlying254 Tryz.underlying5;obtain⟨W,H⟩:∃W:World,(w.drew.alloc (.cells (bytesRow s (grownCap w s.size 0 5)) 5 ((bytesRow s (grownCap w s.size 0 5)).size,(bytesRow s (grownCap w s.size 0 5)).size+1)))=W:=⟨_,rfl⟩
 rw[H]at J;have I:Below w.heap.size w W:=by rw[<- H];(repeat first|exact .refl _ _|assumption|refine .trans ?_ (.mono (by assumption) ?_)|refine .alloc ?_ ?_ _|refine .setCell ?_ ?_ _|refine .drew ?_|refine aL ?_ _|omega|(simp<;>omega))
 have A:∀(k:Nat) (h:k<s.size),W.cell? ⟨w.heap.size,k,none⟩=some (.int .u8 ((s[k]'h).toNat:Int)):=by
  intro k h;have N:k<s.data.size:=h
  have j:W.heap[w.heap.size]? =some (.cells (bytesRow s (grownCap w s.size 0 5)) 5 ((bytesRow s (grownCap w s.size 0 5)).size,(bytesRow s (grownCap w s.size 0 5)).size+1)):=by
   rw[<- H];exact heap_alloc_new w.drew _
  have C:(bytesRow s (grownCap w s.size 0 5))[k]? =some (.int .u8 ((s[k]'h).toNat:Int)):=by
   unfold bytesRow;rw[Array.getElem?_append_left (by simpa using N)];simp only[Array.getElem?_map,Array.getElem?_eq_getElem N,Option.map_some];rfl
  simp[World.cell?,j,C]
 obtain⟨r, D⟩:=ag (grownCap w s.size 0 5);rw[D]at J;have c:=kH I;have t:=kH A;have g:w.heap.size<W.heap.size:=by rw[<- H];simp
 clear Q L O H I A D;go_in
 go_wp2_with fail
 refine(x.out w).mono ?_;rintro e w' ⟨rfl,rfl⟩;go_wp2_with fail
 go_loopg [4,24] s.size (fun gk b y wr=> ∃(k:Nat) (n:Int),k+gk=s.size/\b= .int .i64 n/\y= .int .i64 (k:Int)/\W=wr)
 case atStart=>exact⟨0,0,by omega,rfl,rfl,rfl⟩
 obtain⟨k,m,hk,rfl,rfl,rfl⟩:=hrel
 cases gk with
 | zero=>
  have Y:k=s.size:=by omega
  subst Y;go_wp2_with fail
  refine bodyPost_ret (v:=.tuple #[.int .i64 m,.bool true]) (by simp[results,Tryz.results172,go_sem]) rfl ?_;exact⟨m,rfl,c.out⟩
 | succ gk=>
  have Z:k<s.size:=by omega
  have u:(k:Int)<(s.size:Int):=by omega
  have d:IntKind.i64.wrap ((k:Int)+1)=(k:Int)+1:=IntWalk.i64_in _ (by omega);have q:=t.out k Z;go_wp2_with fail
  go_roundg gk
  case measure=>omega
  exact⟨k+1,_,by omega,rfl,by simp,rfl⟩
end Go.Proofs.YtoepemlnlpamlaaGreat
namespace Go.Proofs.YtoepemlnlpamlaaGreat
def fP(x:ByteArray)(l:List UInt8):Bool:=x.toList==l
abbrev Ty:=Int×Int×ByteArray
def lN(nm:List ByteArray)(x:Ty):Bool:=
 if x.1=1\/x.1=2 then decide (x.2.1=0)&&decide (x.2.2=⟨#[]⟩)
 else if x.1=3 then decide (1<=x.2.1)&&decide (x.2.1<=8)&&decide (x.2.2=⟨#[]⟩)
 else if x.1=4 then decide (x.2.1=0)&&fH nm x.2.2
 else false
def yI(t:ae):Option Ty:=
 if t.kind=10 then(dE t.text.data.toList).map fun n=>(3,(n:Int),⟨#[]⟩)
 else if t.kind=9 then some (if fP t.text [105,110,116]=true then(1,0,⟨#[]⟩) else if fP t.text [98,111,111,108]=true then(2,0,⟨#[]⟩) else(4,0,t.text))
 else none
def mG(nm:List ByteArray)(t:ae):Option Ty:=(yI t).filter fun x=>lN nm x
def jc(ks:List ae):List ByteArray:=(ks.filter fun k=>decide (k.kind=3)).map ae.text
open Go.RowKit
def gu(i:Int):List Value:=[.int .i64 i]
theorem Vy(A:Option Addr)(n c:Nat)(l:List Int)(x:Int)(w:World)(Q:aS 1 gu w w.heap.size A l)(S:l.length=n)(r:n<=1000000):
 Calls Tryz.prog 167 #[.slice A n c,.int .i64 x] w fun e w'=>(∃i:Int,e= .returned (.int .i64 i)/\decide (0<=i)=l.any fun y=>decide (x=y))/\w=w':=by
 have U:=kH Q;have L:=kH S;clear Q S;go_in
 go_wp2_with fail
 go_loopg [8] n (fun gk s wr=> ∃k:Nat,k+gk=n/\s= .int .i64 k/\w=wr/\((l.take k).any fun y=>decide (x=y))=false)
 case atStart=>exact⟨0,by omega,rfl,rfl,rfl⟩
 obtain⟨k,R,rfl,rfl,T⟩:=hrel;have O:=kH R;have P:=kH T;have Y:k<=n:=by omega
 clear R T;by_cases F:k<n
 ·have H:l[k]? =some (l[k]'(by rw[L.out];exact F)):=ace _
  generalize l[k]'(by rw[L.out];exact F)=y at H
  obtain⟨W,t,J,X,D⟩:=U.out k _ H;subst J;have q:w.cell? ⟨W,t+k,none⟩=some (.int .i64 y):=by simpa using D 0 _ rfl
  have Z:(k:Int)<(n:Int):=by omega
  have v:IntKind.i64.wrap ((k:Int)+1)=(k:Int)+1:=IntWalk.i64_in _ (by omega);have N:=kH H;clear D H;by_cases C:x=y
  ·have z:(x==y)=true:=by simp[C]
   have B:(l.any fun y=>decide (x=y))=true:=by
    rw[List.any_eq_true];exact⟨y,acn N.out,by simp[C]⟩
   have I:=kH B;clear B C;go_wp2_with fail
   go_ret
   exact⟨⟨(k:Int),rfl,by rw[I.out];simp⟩,rfl⟩
  have z:(x==y)=false:=by simp[C]
  have G:((l.take (k+1)).any fun y=>decide (x=y))=false:=by
   rw[List.take_add_one,N.out,List.any_append,P.out];simp[C]
  have u:=kH G;clear G C;go_wp2_with fail
  go_roundg (gk - 1)
  case measure=>have:=O.out;omega
  exact⟨k+1,by have:=O.out;omega,by simp,rfl,u.out⟩
 have B:(l.any fun y=>decide (x=y))=false:=by
  have h:=P.out;rw[List.take_of_length_le (by rw[L.out];omega)]at h;exact h
 have I:=kH B;clear B;go_wp2_with fail
 go_ret
 exact⟨⟨-1,rfl,by rw[I.out];rfl⟩,rfl⟩
theorem OY(A:Option Addr)(n c:Nat)(l:List Int)(x:Int)(w:World)(B:aS 1 gu w w.heap.size A l)(C:l.length=n)(G:n<=1000000):
 Calls Tryz.prog 96 #[.slice A n c,.int .i64 x] w fun e w'=>e= .returned (.bool (l.any fun y=>decide (x=y)))/\w=w':=by
 have D:=kH (Vy A n c l x w B C G);clear B C;go_in
 go_wp2_with fail
 refine D.out.mono ?_;rintro e w' ⟨⟨i,rfl,F⟩,rfl⟩;go_wp2_with fail
 go_ret
 exact⟨bE (by rw[<- F]),rfl⟩
theorem Vv(A:Option Addr)(n c:Nat)(l:List ByteArray)(x:ByteArray)(w:World)(R:aS 1 nE w w.heap.size A l)(T:l.length=n)(j:n<=1000000):
 Calls Tryz.prog 87 #[.slice A n c,.string x] w fun e w'=>(∃i:Int,e= .returned (.int .i64 i)/\decide (0<=i)=fH l x)/\w=w':=by
 have X:=kH R;have L:=kH T;clear R T;go_in
 go_wp2_with fail
 go_loopg [8] n (fun gk s wr=> ∃k:Nat,k+gk=n/\s= .int .i64 k/\w=wr/\fH (l.take k) x=false)
 case atStart=>exact⟨0,by omega,rfl,rfl,rfl⟩
 obtain⟨k,S,rfl,rfl,U⟩:=hrel;have N:=kH S;have P:=kH U;have z:k<=n:=by omega
 clear S U;by_cases F:k<n
 ·have C:l[k]? =some (l[k]'(by rw[L.out];exact F)):=ace _
  generalize l[k]'(by rw[L.out];exact F)=y at C
  obtain⟨Y,m,I,Z,D⟩:=X.out k _ C;subst I;have g:w.cell? ⟨Y,m+k,none⟩=some (.string y):=by simpa using D 0 _ rfl
  have v:(k:Int)<(n:Int):=by omega
  have t:IntKind.i64.wrap ((k:Int)+1)=(k:Int)+1:=IntWalk.i64_in _ (by omega)
  have G:fH (l.take (k+1)) x=(y.toList==x.toList):=by
   have Q:=P.out;unfold fH at Q⊢;rw[List.take_add_one,C,List.any_append,Q];simp
  have W:=kH C;have r:=kH G;obtain⟨q, J⟩:=ag ((y.toList==x.toList));have u:(x.toList==y.toList)=q:=by rw[<- J,Bool.eq_iff_iff];simp only[beq_iff_eq];exact eq_comm
  have O:=kH J;clear D C G J;cases q
  ·go_wp2_with fail
   go_roundg (gk - 1)
   case measure=>have:=N.out;omega
   exact⟨k+1,by have:=N.out;omega,by simp,rfl,by rw[r.out];exact O.out⟩
  have B:fH l x=true:=by
   unfold fH;rw[List.any_eq_true];exact⟨y,acn W.out,O.out⟩
  have H:=kH B;clear B;go_wp2_with fail
  go_ret
  exact⟨⟨(k:Int),rfl,by rw[H.out];simp⟩,rfl⟩
 have B:fH l x=false:=by
  have h:=P.out;rw[List.take_of_length_le (by rw[L.out];omega)]at h;exact h
 have H:=kH B;clear B;go_wp2_with fail
 go_ret
 exact⟨⟨-1,rfl,by rw[H.out];rfl⟩,rfl⟩
theorem OX(A:Option Addr)(n c:Nat)(l:List ByteArray)(x:ByteArray)(w:World)(B:aS 1 nE w w.heap.size A l)(C:l.length=n)(G:n<=1000000):
 Calls Tryz.prog 46 #[.slice A n c,.string x] w fun e w'=>e= .returned (.bool (fH l x))/\w=w':=by
 have D:=kH (Vv A n c l x w B C G);clear B C;go_in
 go_wp2_with fail
 refine D.out.mono ?_;rintro e w' ⟨⟨i,rfl,F⟩,rfl⟩;go_wp2_with fail
 go_ret
 exact⟨bE (by rw[<- F]),rfl⟩
def Sw(fn:Nat):Prop:=∀(args:Array Value) (w:World),(callFunc fn args).run Tryz.prog w= .ok (.enter fn args) w
def KC(w w':World):Prop:=∀(g:Nat) (cs:Array Value) (ty:TypeId) (fr:Nat×Nat),w.heap[g]? =some (.cells cs ty fr)->w'.heap[g]? =w.heap[g]?
theorem KC.trans{a b c:World}(h:KC a b)(k:KC b c):KC a c:=fun g A D B C=>by
 have e:=h g A D B C;exact(k g A D B (e.trans C)).trans e
theorem KC.of_below{w w':World}(A:Below w.heap.size w w'):KC w w':=fun g _ _ _ B=>A.block g (acd.1 B).1
theorem KC.blk{w w':World}{g:Nat}{B:TypeId}{A:Array Value}(h:KC w w')(C:ah w g B A):ah w' g B A:=ah.keep C (h g A B (0,0) C)
theorem KC.cell{w w':World}(h:KC w w'){b o:Nat}{v:Value}(A:w.cell? ⟨b,o,none⟩=some v):w'.cell? ⟨b,o,none⟩=some v:=by
 unfold World.cell? at A⊢
 cases B:w.heap[b]? with
 | none=>rw[B]at A;cases A
 | some ob=>
  cases ob with
  | cells cs ty fr=>
   have:=h b cs ty fr B;simp only at A⊢;rw[this,B];rw[B]at A;exact A
  | _=>rw[B]at A;cases A
theorem KC.lt{w w':World}(h:KC w w'){b o:Nat}{v:Value}(B:w.cell? ⟨b,o,none⟩=some v):b<w'.heap.size:=by
 have:=h.cell B;unfold World.cell? at this;rcases Nat.lt_or_ge b w'.heap.size with A|A
 ·exact A
 simp[Array.getElem?_eq_none A]at this
theorem aS.kc{F:Type}{size:Nat}{cells:F->List Value}{w w':World}{B:Nat}{A:Option Addr}{l:List F}(h:aS size cells w B A l)(L:KC w w'):aS size cells w' B A l:=by
 intro k c C;obtain⟨b,D,G,H,I⟩:=h k c C;exact⟨b,D,G,H,fun j v J=>L.cell (I j v J)⟩
def iW(w:World)(v:Value)(p:Int->Bool):Prop:=
 ∃fn cap,v= .func (Fn.func fn) #[] cap/\Sw fn/\∀(k:Int) (w':World),KC w w'->w.heap.size<=w'.heap.size->Calls Tryz.prog fn (#[.int .i64 k]++cap) w' fun e w''=>e= .returned (.bool (p k))/\Below w'.heap.size w' w''
def nN(w:World)(v:Value)(p:ByteArray->Bool):Prop:=
 ∃fn cap,v= .func (Fn.func fn) #[] cap/\Sw fn/\∀(s:ByteArray) (w':World),KC w w'->w.heap.size<=w'.heap.size->Calls Tryz.prog fn (#[.string s]++cap) w' fun e w''=>e= .returned (.bool (p s))/\Below w'.heap.size w' w''
theorem iW.kc{w w':World}{v:Value}{p:Int->Bool}(h:iW w v p)(J:KC w w')(L:w.heap.size<=w'.heap.size):iW w' v p:=by
 obtain⟨F,A,G,H,I⟩:=h;exact⟨F,A,G,H,fun k D B C=>I k D (J.trans B) (aca L C)⟩
theorem nN.kc{w w':World}{v:Value}{p:ByteArray->Bool}(h:nN w v p)(J:KC w w')(L:w.heap.size<=w'.heap.size):nN w' v p:=by
 obtain⟨F,A,G,H,I⟩:=h;exact⟨F,A,G,H,fun s D B C=>I s D (J.trans B) (aca L C)⟩
theorem iW.below{w w':World}{v:Value}{p:Int->Bool}(h:iW w v p)(A:Below w.heap.size w w'):iW w' v p:=h.kc (KC.of_below A) A.size
theorem TN(A:Option Addr)(n c:Nat)(l:List Int)(w:World)(H:aS 1 gu w w.heap.size A l)(G:l.length=n)(O:n<=1000000):
 Calls Tryz.prog 189 #[.slice A n c] w fun e w'=> ∃v,e= .returned v/\iW w' v (fun k=>l.any fun y=>decide (k=y))/\Below w.heap.size w w':=by
 have J:=kH H;have L:=kH G;clear H G;go_in
 go_wp2_with fail
 refine bodyPost_ret (v:=.func (Fn.func 233) #[] #[.pointer (some ⟨w.heap.size,0,none⟩)]) (by simp[results,Tryz.results189,go_sem]) rfl ?_;refine⟨_,rfl,⟨_,_,rfl,fun args w=>by go_simp,fun k w' F D=>?_⟩,ai _ _⟩;have C:=ah.new w 28 #[.slice A n c];have B:ah w' w.heap.size 28 #[.slice A n c]:=F.blk C;have P:w'.cell? ⟨w.heap.size,0,none⟩=some (.slice A n c):=B.cell 0;have I:aS 1 gu w' w'.heap.size A l:=((J.out.below (ai w _) (ab9 _)).kc F).mono (by simp at D;omega);have N:=kH I;have G:=B.lt;clear C B I F D;show Calls Tryz.prog 233 #[.int .i64 k,.pointer (some ⟨w.heap.size,0,none⟩)] w' _;go_in
 go_wp2_with fail
 refine(OY A n c l k w' N.out L.out O).mono ?_;rintro e Q ⟨rfl,rfl⟩;go_wp2_with fail
 go_ret
 exact⟨rfl,Below.refl _ _⟩
theorem Pj(A:Option Addr)(n c:Nat)(l:List ByteArray)(w:World)(H:aS 1 nE w w.heap.size A l)(G:l.length=n)(O:n<=1000000):
 Calls Tryz.prog 193 #[.slice A n c] w fun e w'=> ∃v,e= .returned v/\nN w' v (fun s=>fH l s)/\Below w.heap.size w w':=by
 have J:=kH H;have L:=kH G;clear H G;go_in
 go_wp2_with fail
 refine bodyPost_ret (v:=.func (Fn.func 235) #[] #[.pointer (some ⟨w.heap.size,0,none⟩)]) (by simp[results,Tryz.results193,go_sem]) rfl ?_;refine⟨_,rfl,⟨_,_,rfl,fun args w=>by go_simp,fun k w' F D=>?_⟩,ai _ _⟩;have C:=ah.new w 41 #[.slice A n c];have B:ah w' w.heap.size 41 #[.slice A n c]:=F.blk C;have P:w'.cell? ⟨w.heap.size,0,none⟩=some (.slice A n c):=B.cell 0;have I:aS 1 nE w' w'.heap.size A l:=((J.out.below (ai w _) (ab9 _)).kc F).mono (by simp at D;omega);have N:=kH I;have G:=B.lt;clear C B I F D;show Calls Tryz.prog 235 #[.string k,.pointer (some ⟨w.heap.size,0,none⟩)] w' _;go_in
 go_wp2_with fail
 refine(OX A n c l k w' N.out L.out O).mono ?_;rintro e Q ⟨rfl,rfl⟩;go_wp2_with fail
 go_ret
 exact⟨rfl,Below.refl _ _⟩
theorem FI(v:Value)(p:Int->Bool)(w:World)(T:iW w v p):
 Calls Tryz.prog 191 #[v] w fun e w'=> ∃S,e= .returned S/\iW w' S (fun k=>decide (k=0) || p k)/\Below w.heap.size w w':=by
 obtain⟨N,D,rfl,A,B⟩:=T;have G:=kH A;have U:=kH B;clear A B;go_in
 go_wp2_with fail
 refine bodyPost_ret (v:=.func (Fn.func 234) #[] #[.pointer (some ⟨w.heap.size,0,none⟩)]) (by simp[results,Tryz.results191,go_sem]) rfl ?_;refine⟨_,rfl,⟨_,_,rfl,fun args w=>by go_simp,fun k w' O L=>?_⟩,ai _ _⟩;have H:=ah.new w 54 #[.func (Fn.func N) #[] D];have F:ah w' w.heap.size 54 #[.func (Fn.func N) #[] D]:=O.blk H;have X:w'.cell? ⟨w.heap.size,0,none⟩=some (.func (Fn.func N) #[] D):=F.cell 0;have C:KC w w':=(KC.of_below (ai w _)).trans O;have I:=U.out k w' C (by simp at L;omega);have W:=kH I;have A:=G.out;unfold Sw at A;have Y:=F.lt;clear H F O C I L;show Calls Tryz.prog 234 #[.int .i64 k,.pointer (some ⟨w.heap.size,0,none⟩)] w' fun e Q=>e= .returned (.bool (decide (k=0) || p k))/\Below w'.heap.size w' Q
 by_cases J:k=0
 ·have P:(k==0)=true:=by simp[J]
  subst J;go_in
  go_wp2_with fail
  go_ret
  exact⟨rfl,Below.refl _ _⟩
 have P:(k==0)=false:=by simp[J]
 have R:decide (k=0)=false:=decide_eq_false J;rw[R];clear J R;go_in
 go_wp2_with fail
 refine W.out.mono ?_;rintro e Z ⟨rfl,C⟩;go_wp2_with fail
 go_ret
 exact⟨bE (by simp),C⟩
def bU(k:Int):Bool:=decide (k=9) || decide (k=10)
def kg(k:Int):Bool:=decide (12<=k)&&decide (k<=19)
def aN(k:Int):Bool:=decide (20<=k)&&decide (k<=29)
def iC(k:Int):Bool:=decide (k=20) || decide (k=21) || decide (k=22)
theorem Yf(w:World):iW w (.func (Fn.func 192) #[] #[]) bU:=by
 refine⟨_,_,rfl,fun args w=>by go_simp,fun k w' _ _=>?_⟩;show Calls Tryz.prog 192 #[.int .i64 k] w' fun e A=>e= .returned (.bool (bU k))/\Below w'.heap.size w' A
 go_in
 go_wp2_with fail
 all_goals go_ret
 all_goals exact⟨bE (by unfold bU;rw[Bool.eq_iff_iff];simp<;>omega),Below.refl _ _⟩
theorem Yg(w:World):iW w (.func (Fn.func 197) #[] #[]) kg:=by
 refine⟨_,_,rfl,fun args w=>by go_simp,fun k w' _ _=>?_⟩;show Calls Tryz.prog 197 #[.int .i64 k] w' fun e A=>e= .returned (.bool (kg k))/\Below w'.heap.size w' A
 go_in
 go_wp2_with fail
 all_goals go_ret
 all_goals exact⟨bE (by unfold kg;rw[Bool.eq_iff_iff];simp<;>omega),Below.refl _ _⟩
theorem Yh(w:World):iW w (.func (Fn.func 190) #[] #[]) aN:=by
 refine⟨_,_,rfl,fun args w=>by go_simp,fun k w' _ _=>?_⟩;show Calls Tryz.prog 190 #[.int .i64 k] w' fun e A=>e= .returned (.bool (aN k))/\Below w'.heap.size w' A
 go_in
 go_wp2_with fail
 all_goals go_ret
 all_goals exact⟨bE (by unfold aN;rw[Bool.eq_iff_iff];simp<;>omega),Below.refl _ _⟩
theorem Vt(w:World):iW w (.func (Fn.func 198) #[] #[]) iC:=by
 refine⟨_,_,rfl,fun args w=>by go_simp,fun k w' _ _=>?_⟩;show Calls Tryz.prog 198 #[.int .i64 k] w' fun e A=>e= .returned (.bool (iC k))/\Below w'.heap.size w' A
 go_in
 go_wp2_with fail
 all_goals go_ret
 all_goals exact⟨bE (by unfold iC;rw[Bool.eq_iff_iff];simp<;>omega),Below.refl _ _⟩
theorem abx(w:World):nN w (.func (Fn.func 194) #[] #[]) (fun s=>decide (s.size=0)):=by
 refine⟨_,_,rfl,fun args w=>by go_simp,fun s w' _ _=>?_⟩;show Calls Tryz.prog 194 #[.string s] w' fun e A=>e= .returned (.bool (decide (s.size=0)))/\Below w'.heap.size w' A
 have B:=sS s;go_in
 go_wp2_with fail
 go_ret
 exact⟨bE (by first|rfl|simp),Below.refl _ _⟩
theorem TT(w:World):nN w (.func (Fn.func 53) #[] #[]) (fun s=>qA s.data.toList):=
 ⟨_,_,rfl,fun args w=>by go_simp,fun s w' _ _=>X5 s w'⟩
def iL(s:ByteArray):Bool:=(dE s.data.toList).isSome&&(decide (s=⟨#[48]⟩) || decide (bz s.data.toList 0≠48))
theorem XW(w:World):nN w (.func (Fn.func 196) #[] #[]) iL:=by
 refine⟨_,_,rfl,fun args w=>by go_simp,fun s w' _ _=>?_⟩;show Calls Tryz.prog 196 #[.string s] w' fun e N=>e= .returned (.bool (iL s))/\Below w'.heap.size w' N
 have L:=SS s w';obtain⟨P, B⟩:=ag ((dE s.data.toList).isSome);rw[B]at L
 have I:P=true->0<s.size:=by
  intro h;rw[h]at B;unfold dE at B;split at B
  ·cases B
  rename_i h2
  rw[dN]at h2;omega
 have J:=kH L;have D:=kH B;have Q:=kH I;clear L B I;cases P
 ·have C:iL s=false:=by unfold iL;rw[D.out];rfl
  rw[C];clear C;go_in
  go_wp2_with fail
  refine J.out.mono ?_;rintro e w1 ⟨n,rfl,F⟩;go_wp2_with fail
  go_ret
  exact⟨rfl,F⟩
 have I:=Q.out rfl;have R:(0:Int)<(s.size:Int):=by omega
 by_cases A:s=⟨#[48]⟩
 ·have C:iL s=true:=by unfold iL;rw[D.out,decide_eq_true A];rfl
  rw[C];have H:(s.toList==[48])=true:=by rw[A,ByteArray.toList_eq];rfl
  have O:(s.data.toList==[48])=true:=by rw[A];rfl
  clear C A;go_in
  go_wp2_with fail
  refine J.out.mono ?_;rintro e w1 ⟨n,rfl,F⟩;go_wp2_with fail
  go_ret
  exact⟨rfl,F⟩
 have O:(s.data.toList==[48])=false:=by
  rw[Bool.eq_false_iff];intro h;apply A
  obtain⟨⟨l⟩⟩:=s;simp at h;rw[h]
 have H:(s.toList==[48])=false:=by rw[ByteArray.toList_eq];exact O
 have C:iL s=decide (bz s.data.toList 0≠48):=by unfold iL;rw[D.out,decide_eq_false A];simp
 rw[C];have G:=oQ s 0 I;rw[<- G];clear C A G;go_in
 go_wp2_with fail
 refine J.out.mono ?_;rintro e w1 ⟨n,rfl,F⟩;go_wp2_with fail
 go_ret
 exact⟨bE (by rw[Bool.eq_iff_iff];simp;omega),F⟩
theorem Y3(w:World)(R L:Nat)(x v:Value)(p1 S:ByteArray->Bool)(r:nN w x p1)(q:nN w v S)(A:ah w R 99 #[x])(B:ah w L 99 #[v]):
 nN w (.func (Fn.func 195) #[] #[.pointer (some ⟨R,0,none⟩),.pointer (some ⟨L,0,none⟩)]) (fun s=>p1 s || S s):=by
 obtain⟨T,u,rfl,U,P⟩:=r;obtain⟨N,F,rfl,W,Q⟩:=q;refine⟨_,_,rfl,fun args w=>by go_simp,fun s w' O I=>?_⟩;show Calls Tryz.prog 195 #[.string s,.pointer (some ⟨R,0,none⟩),.pointer (some ⟨L,0,none⟩)] w' fun e D=>e= .returned (.bool (p1 s || S s))/\Below w'.heap.size w' D
 have J:=O.blk A;have C:=O.blk B;have m:=J.lt;have X:=C.lt;have l:w'.cell? ⟨R,0,none⟩=some (.func (Fn.func T) #[] u):=J.cell 0;have Y:w'.cell? ⟨L,0,none⟩=some (.func (Fn.func N) #[] F):=C.cell 0;have Z:=kH (P s w' O I);have z:=kH (fun D (h:Below w'.heap.size w' D)=>Q s D (O.trans (KC.of_below h)) (aca I h.size));have n:=kH C;unfold Sw at U W;obtain⟨t, G⟩:=ag (p1 s);obtain⟨k, H⟩:=ag (S s);rw[G,H];rw[G]at Z;rw[H]at z;clear O P Q A B J C G H I;go_in
 go_wp2_with fail
 refine Z.out.mono ?_;rintro e w1 ⟨rfl,A⟩;cases t
 ·have y:w1.cell? ⟨L,0,none⟩=some (.func (Fn.func N) #[] F):=(A.cell (p:=⟨L,0,none⟩) X).trans Y
  go_wp2_with fail
  refine(z.out w1 A).mono ?_;rintro e j ⟨rfl,B⟩;go_wp2_with fail
  go_ret
  exact⟨bE (by simp),A.trans (B.mono A.size)⟩
 go_wp2_with fail
 go_ret
 exact⟨bE (by simp),A⟩
abbrev Rc:=ByteArray×Option Addr×Nat×Nat
def gT(x:Rc):List Value:=[.string x.1,.slice x.2.1 x.2.2.1 x.2.2.2]
def jI(w:World)(B:Nat)(A:Option Addr)(n:Nat)(nm:List ByteArray):Prop:=∃l:List Rc,aS 2 gT w B A l/\l.length=n/\l.map (·.1)=nm/\n<=1000000
theorem jI.below{w w':World}{B C:Nat}{A:Option Addr}{n:Nat}{D:List ByteArray}(h:jI w B A n D)(I:Below C w w')(H:B<=C):jI w' B A n D:=by
 obtain⟨l,F,G⟩:=h;exact⟨l,F.below I H,G⟩
theorem jI.mono{w:World}{B C:Nat}{A:Option Addr}{n:Nat}{D:List ByteArray}(h:jI w B A n D)(H:B<=C):jI w C A n D:=by
 obtain⟨l,F,G⟩:=h;exact⟨l,F.mono H,G⟩
theorem aaf(x y:ByteArray)(A:Option Addr)(n c g:Nat)(w:World)(B:ah w g 9 #[.string y]):
 Calls Tryz.prog 257 #[.agg #[.string x,.slice A n c],.pointer (some ⟨g,0,none⟩)] w fun e w'=>e= .returned (.bool (x.toList==y.toList))/\Below w.heap.size w w':=by
 have F:=B.cell 0;have G:=B.lt;have C:=ai w (.cells #[.string x,.slice A n c] 164);have D:=kH C;clear B C;go_in
 go_wp2_with fail
 go_ret
 exact⟨bE (by first|rfl|simp),D.out⟩
theorem Vw(A:Option Addr)(n c:Nat)(l:List Rc)(x:ByteArray)(g:Nat)(w:World)(v:ah w g 9 #[.string x])(z:aS 2 gT w w.heap.size A l)(t:l.length=n)(hn:n<=1000000):
 Calls Tryz.prog 256 #[.slice A n c,.func (Fn.func 257) #[] #[.pointer (some ⟨g,0,none⟩)]] w fun e w'=>(∃i:Int,e= .returned (.int .i64 i)/\decide (0<=i)=fH (l.map (·.1)) x/\i<(n:Int))/\Below w.heap.size w w':=by
 have W:=kH v;have H1:=kH z;have T:=kH t;clear z t v;go_in
 go_wp2_with fail
 go_loopg [5,8] n (fun gk s5 s8 wr=> ∃k:Nat,k+gk=n/\s8= .int .i64 k/\Below w.heap.size w wr/\fH ((l.map (·.1)).take k) x=false)
 case atStart=>exact⟨0,by omega,rfl,Below.refl _ _,rfl⟩
 obtain⟨k,u,rfl,C,m⟩:=hrel;have X:=kH u;have Y:=kH m;have U:=kH C;have a1:k<=n:=by omega
 have a7:(n:Int)<=1000000:=by omega
 clear u m;by_cases L:k<n
 ·have G:l[k]? =some (l[k]'(by rw[T.out];exact L)):=ace _
  generalize l[k]'(by rw[T.out];exact L)=y at G
  obtain⟨O,f,Q,H,D⟩:=H1.out k _ G;subst Q;obtain⟨y,d,yn,b⟩:=y;have R:wr.cell? ⟨O,f+k*2,none⟩=some (.string y):=(C.cell (p:=⟨O,_,none⟩) H).trans (by simpa using D 0 _ rfl);have S:wr.cell? ⟨O,f+k*2+1,none⟩=some (.slice d yn b):=(C.cell (p:=⟨O,_,none⟩) H).trans (by simpa using D 1 _ rfl);have a6:(k:Int)<(n:Int):=by omega
  have a8:IntKind.i64.wrap ((k:Int)+1)=(k:Int)+1:=IntWalk.i64_in _ (by omega)
  have N:fH ((l.map (·.1)).take (k+1)) x=(y.toList==x.toList):=by
   have Z:=Y.out;unfold fH at Z⊢;rw[List.take_add_one,List.getElem?_map,G,List.any_append,Z];simp
  have E1:=kH G;have j:=kH N;have J:=W.out.below C W.out.lt;have tN:=kH (aaf y x d yn b g wr J);clear D G N J C;go_wp2_with fail
  refine tN.out.mono ?_;rintro e w2 ⟨rfl,I⟩;have F:=kH (U.out.trans (I.mono U.out.size));clear I R S;obtain⟨q, r⟩:=ag ((y.toList==x.toList));rw[r]at j⊢;cases q
  ·go_wp2_with fail
   go_roundg (gk - 1)
   case measure=>have:=X.out;omega
   exact⟨k+1,by have:=X.out;omega,by simp,F.out,j.out⟩
  have B:fH (l.map (·.1)) x=true:=by
   unfold fH;rw[List.any_eq_true];exact⟨y,List.mem_map.2 ⟨_,acn E1.out,rfl⟩,r⟩
  have P:=kH B;clear B;go_wp2_with fail
  go_ret
  exact⟨⟨(k:Int),rfl,by rw[P.out];simp,by omega⟩,F.out⟩
 have B:fH (l.map (·.1)) x=false:=by
  have h:=Y.out;rw[List.take_of_length_le (by rw[List.length_map,T.out];omega)]at h;exact h
 have P:=kH B;clear B C;go_wp2_with fail
 go_ret
 exact⟨⟨-1,rfl,by rw[P.out];rfl,by omega⟩,U.out⟩
theorem SF(A:Option Addr)(n c:Nat)(nm:List ByteArray)(x:ByteArray)(w:World)(h:jI w w.heap.size A n nm):
 Calls Tryz.prog 249 #[.slice A n c,.string x] w fun e w'=>(∃s B m d,e= .returned (.tuple #[.agg #[.string s,.slice B m d],.bool (fH nm x)]))/\Below w.heap.size w w':=by
 obtain⟨l,Y,u,rfl,hn⟩:=h;obtain⟨W, L⟩:=ag ((w.alloc (.cells #[.string x] 9)).alloc (.cells #[.string ⟨#[]⟩,.slice none 0 0] 164));have X:Below w.heap.size w W:=by rw[<- L];exact(ai w _).trans ((ai _ _).mono (by simp))
 have hx:ah W w.heap.size 9 #[.string x]:=by rw[<- L];exact(ah.new w _ _).alloc _
 have hz:ah W (w.heap.size+1) 164 #[.string ⟨#[]⟩,.slice none 0 0]:=by
  rw[<- L];have:=ah.new (w.alloc (.cells #[.string x] 9)) 164 #[.string ⟨#[]⟩,.slice none 0 0];simpa using this
 have P:aS 2 gT W w.heap.size A l:=Y.below X (ab9 _);have G:=Vw A n c l x w.heap.size W hx (P.mono X.size) u hn;obtain⟨hs, S⟩:=ag (fH (l.map (·.1)) x);rw[S]at G⊢;have HI:=kH G;have f:=kH X;have b:=kH hz;have H1:=kH Y;have HL:=kH u;clear X hx hz P Y u G S;go_in
 go_wp2_with (rw[L])
 refine HI.out.mono ?_;rintro e N ⟨⟨i,rfl,G,a6⟩,R⟩;have C:=b.out.below R b.out.lt;have D:=kH (f.out.trans (R.mono f.out.size));have z0:=C.cell 0;have z1:=C.cell 1;have zl:=C.lt;have zf:=C.frozen 0;have ad:=C.frozen 1
 have F:∀(s:ByteArray) (B:Option Addr) (m d:Nat) (J:World),(N.setCell ⟨w.heap.size+1,0,none⟩ (.string s)).setCell ⟨w.heap.size+1,1,none⟩ (.slice B m d)=J->ah J (w.heap.size+1) 164 #[.string s,.slice B m d]/\Below w.heap.size w J:=fun s B m d J U=>by
  subst U;exact⟨by simpa using(C.dB 0 (.string s)).dB 1 (.slice B m d),(D.out.setCell (by show w.heap.size<=w.heap.size+1;omega) _).setCell (by show w.heap.size<=w.heap.size+1;omega) _⟩
 have bT:=kH F;clear F;cases hs
 ·have T:i<0:=by simpa using G
  clear G L;obtain⟨J, U⟩:=ag ((N.setCell ⟨w.heap.size+1,0,none⟩ (.string ⟨#[]⟩)).setCell ⟨w.heap.size+1,1,none⟩ (.slice none 0 0));obtain⟨Q,t⟩:=bT.out _ _ _ _ _ U;go_wp2_with fail
  refine bodyPost_ret (v:=.tuple #[.agg #[.string ⟨#[]⟩,.slice none 0 0],.bool false]) (by simp[results,Tryz.results249,go_sem,Q.cell 0,Q.cell 1]) rfl ?_;exact⟨⟨_,_,_,_,rfl⟩,t⟩
 have T:¬i<0:=by have:=of_decide_eq_true G;omega
 obtain⟨k,rfl⟩:=Int.eq_ofNat_of_zero_le (by omega:0<=i);have z:k<l.length:=by have:=HL.out;omega
 obtain⟨⟨y,r,g,j⟩,hy⟩:∃q,l[k]? =some q:=⟨_,ace z⟩
 obtain⟨O,o1,Z,H,I⟩:=H1.out k _ hy;subst Z;have aa:N.cell? ⟨O,o1+k*2,none⟩=some (.string y):=(D.out.cell (p:=⟨O,_,none⟩) H).trans (by simpa using I 0 _ rfl);have ab:N.cell? ⟨O,o1+k*2+1,none⟩=some (.slice r g j):=(D.out.cell (p:=⟨O,_,none⟩) H).trans (by simpa using I 1 _ rfl);have a7:k<n:=by omega
 have a8:O<N.heap.size:=Nat.lt_of_lt_of_le H D.out.size;have a1:decide ((k:Int)<0)=false:=decide_eq_false T;obtain⟨J, U⟩:=ag ((N.setCell ⟨w.heap.size+1,0,none⟩ (.string y)).setCell ⟨w.heap.size+1,1,none⟩ (.slice r g j));obtain⟨Q,t⟩:=bT.out _ _ _ _ _ U;clear G L I;go_wp2_with fail
 refine bodyPost_ret (v:=.tuple #[.agg #[.string y,.slice r g j],.bool true]) (by simp[results,Tryz.results249,go_sem,Q.cell 0,Q.cell 1]) rfl ?_;exact⟨⟨_,_,_,_,rfl⟩,t⟩
theorem Gh(A:List ByteArray)(k l:Int)(r:ByteArray):∃e v,r.toList.isEmpty=e/\fH A r=v /\
 (((k=1\/k=2)/\((l=0/\lN A (k,l,r)=e)\/(l≠0/\lN A (k,l,r)=false))) \/
  (k=3/\((1<=l/\l<=8/\lN A (k,l,r)=e)\/(¬1<=l/\lN A (k,l,r)=false)\/(1<=l/\¬l<=8/\lN A (k,l,r)=false))) \/
  (k=4/\((l=0/\lN A (k,l,r)=v)\/(l≠0/\lN A (k,l,r)=false))) \/
  (k≠1/\k≠2/\k≠3/\k≠4/\lN A (k,l,r)=false)):=by
 have F:r.toList.isEmpty=decide (r=⟨#[]⟩):=by
  rw[sS,Bool.eq_iff_iff];simp only[decide_eq_true_eq];exact⟨fun h=>ByteArray.size_eq_zero_iff.1 h,fun h=>by rw[h];rfl⟩
 refine⟨_,_,rfl,rfl,?_⟩;rw[F];unfold lN;by_cases B:k=1\/k=2
 ·left
  simp only[if_pos B];refine⟨B,?_⟩;by_cases G:l=0<;>simp[G]
 right
 simp only[if_neg B];by_cases C:k=3
 ·left
  simp only[if_pos C];refine⟨C,?_⟩;by_cases H:1<=l<;>by_cases I:l<=8<;>simp[H,I]
 right
 simp only[if_neg C];by_cases D:k=4
 ·left
  simp only[if_pos D];refine⟨D,?_⟩;by_cases G:l=0<;>simp[G]
 right
 simp only[if_neg D];exact⟨by omega,by omega,C,D,by first|rfl|trivial⟩
end Go.Proofs.YtoepemlnlpamlaaGreat
namespace Go.Proofs.YtoepemlnlpamlaaGreat
structure Dc where
 kind:Int
 name:ByteArray
 node:Int
 owner:Int
 deriving DecidableEq
abbrev lL:=List (ByteArray×Int)
abbrev aR:=List lL
def bK{K V:Type}[DecidableEq K]:List (K×V)->K->Option V
 | [],_=>none
 | x::l,k=>if k=x.1 then some x.2 else bK l k
def dZ{K V:Type}[DecidableEq K]:List (K×V)->K->V->List (K×V)
 | [],k,v=>[(k,v)]
 | x::l,k,v=>if k=x.1 then(k,v)::l else x::dZ l k v
abbrev aV(l:lL)(n:ByteArray):Option Int:=bK l n
def fF:aR->ByteArray->Option Int
 | [],_=>none
 | x::s,n=>match aV x n with|some k=>some k|none=>fF s n
def aH(s:aR):List Int:=s.flatMap fun l=>l.map (·.2)
def aF(l:List Int):List Int:=l.mergeSort fun a b=>decide (a<=b)
def lh(s:aR)(l:lL):aR:=
 match s with
 | []=>[]
 | x::s=>(l.foldl (fun a y=>dZ a y.1 y.2) x)::s
structure bf where
 globals:lL
 fields:lL
 kinds:List (Int×Int)
mutual
def aB:ae->Nat
 | .node _ _ _ _ kids=>1+aC kids
def aC:List ae->Nat
 | []=>0
 | t::ts=>aB t+aC ts
end
def kY(l:lL)(n:ByteArray)(k:Int):lL:=if (aV l n).isSome then l else dZ l n k
def jG:List ae->Nat->lL->lL
 | [],_,l=>l
 | f::fs,at_,l=>jG fs (at_+aB f) (if f.kind=4 then kY l f.text at_ else l)
def kU:List ae->Nat->bf->bf
 | [],_,g=>g
 | k::ks,n,g=>kU ks (n+aB k) ⟨kY g.globals k.text n,jG k.kids (n+1) g.fields,dZ g.kinds (n:Int) k.kind⟩
def fC(t:ae):bf:=kU t.kids 1 ⟨[],[],[]⟩
structure RS where
 ds:List Dc
 uses:List Int
 aP:List (Int×List Int)
 aU:List (Int×Dg)
 next:Nat
 owner:Int
def pE(r:RS)(code:Int)(n:Nat)(t:ae):RS:={ r with aU:=r.aU++[((n:Int),⟨code,t.at_,t.end_,t.text⟩)] }
def kK(r:RS)(kind:Int)(n:Nat)(t:ae):RS:=
 { r with ds:=r.ds++[⟨kind,t.text,n,if kind=0\/kind=2 then -1 else r.owner⟩],uses:=r.uses.set n (n:Int) }
def aX(r:RS)(kind:Int)(n:Nat)(t:ae)(already:Bool):RS:=if already then pE r 9 n t else kK r kind n t
def aJ(G:bf)(r:RS)(kind:Int)(n:Nat)(t:ae)(s:aR):RS×aR:=
 if (fF s t.text).isSome || (aV G.globals t.text).isSome then(pE r 9 n t,s) else(kK r kind n t,lh s [(t.text,(n:Int))])
def iw(r:RS)(n:Nat)(t:ae)(dD:Option Int):RS:=
 match dD with
 | none=>pE r 8 n t
 | some k=> { r with uses:=r.uses.set n k }
def jN(G:bf)(k:Int):Int:=(bK G.kinds k).getD 0
def ek(t:ByteArray):Bool:=decide (t=⟨#[105,110,116]⟩) || decide (t=⟨#[98,111,111,108]⟩)
mutual
def aK(G:bf)(inside:Bool):ae->aR->RS->RS×aR
 | .node k x a e kids,s,r0=>
  let t:ae:=.node k x a e kids
  let n:=r0.next
  let r:RS:={ r0 with next:=n+1,aP:=if inside then dZ r0.aP (n:Int) (aF (aH s)) else r0.aP }
  let dD:=(aV G.globals x).getD 0
  if k=3 then aj G inside kids 0 kids.length s { aX r 0 n t (decide (dD≠n)) with owner:=n }
  else if k=4 then aj G inside kids 0 kids.length s (aX r 1 n t (decide ((aV G.fields x).getD 0≠n)))
  else if k=5 then
   let r1:RS:={ aX r 2 n t (decide (dD≠n)) with owner:=n }
   let q:=aj G false kids 0 2 [[]] r1
   ((aj G true kids 2 1 ([]::q.2) q.1).1,s)
  else if k=7\/k=8 then
   let q:=aJ G r 3 n t s
   aj G inside kids 0 kids.length q.2 q.1
  else if k=11 then
   let q:=aj G inside kids 0 kids.length ([]::s) r
   (q.1,q.2.tail)
  else if k=12 then
   let q:=aJ G r 4 n t ([]::s)
   let q2:=aj G inside kids 0 2 s q.1
   (q2.1,lh q2.2 (q.2.headD []))
  else if k=16 then
   let q:=aJ G r 5 n t ([]::s)
   let q2:=aj G inside kids 0 2 s q.1
   let q3:=aj G inside kids 2 1 (q.2.headD []::q2.2) q2.1
   (q3.1,q3.2.tail)
  else
   let r1:=if k=20 then iw r n t (fF s x)
    else if k=22 then iw r n t (aV G.fields x)
    else if k=27 then iw r n t (aV G.globals x)
    else if k=19 then iw r n t ((aV G.globals x).filter fun j=>decide (jN G j=5))
    else if k=9/\ek x=false then iw r n t ((aV G.globals x).filter fun j=>decide (jN G j=3))
    else r
   aj G inside kids 0 kids.length s r1
def aj(G:bf)(inside:Bool):List ae->Nat->Nat->aR->RS->RS×aR
 | [],_,_,s,r=>(r,s)
 | _::ts,from_+1,n,s,r=>aj G inside ts from_ n s r
 | _::_,0,0,s,r=>(r,s)
 | t::ts,0,n+1,s,r=>
  let q:=aK G inside t s r
  aj G inside ts 0 n q.2 q.1
end
def zL:List Dc->Nat->List (Int×Int)->List (Int×Int)
 | [],_,l=>l
 | d::ds,i,l=>zL ds (i+1) (dZ l d.node (i:Int))
def o5(ds:List Dc)(u:Int):Int:=(bK (zL ds 0 [(-1,-1)]) u).getD 0
def aZ(t:ae):RS:=
 let r:=(aK (fC t) false t [] ⟨[],List.replicate (aB t) (-1),[],[],0,0⟩).1
 { r with uses:=r.uses.map (o5 r.ds),aP:=r.aP.map fun x=>(x.1,x.2.map (o5 r.ds)) }
end Go.Proofs.YtoepemlnlpamlaaGreat
namespace Go.Proofs
open Go.Shelf
def Tryz.S9:Go.Shelf.Ren:=⟨fun|189=>101|125=>170|257=>169|128=>221|129=>222|294=>212|295=>213|296=>214|297=>215|298=>216|299=>217|216=>218|300=>219|301=>220|328=>237|329=>238|330=>239|331=>240|332=>241|215=>151|343=>254|n=>n,fun|28=>28|3=>3|46=>218|0=>0|51=>239|53=>252|4=>4|183=>244|182=>243|131=>88|5=>5|9=>9|218=>263|222=>101|228=>273|229=>207|n=>n,fun|n=>n⟩
theorem Tryz.TU:Go.Proofs.Lays.n189 Tryz.prog Tryz.S9:={
 mixed:=by kernel_rfl
 f125:=Tryz.func170.trans (congrArg some (by kernel_rfl))
 f128:=Tryz.func221.trans (congrArg some (by kernel_rfl))
 f129:=Tryz.func222.trans (congrArg some (by kernel_rfl))
 f189:=Tryz.func101.trans (congrArg some (by kernel_rfl))
 f215:=Tryz.func151.trans (congrArg some (by kernel_rfl))
 f216:=Tryz.func218.trans (congrArg some (by kernel_rfl))
 f257:=Tryz.func169.trans (congrArg some (by kernel_rfl))
 f294:=Tryz.func212.trans (congrArg some (by kernel_rfl))
 f295:=Tryz.func213.trans (congrArg some (by kernel_rfl))
 f296:=Tryz.func214.trans (congrArg some (by kernel_rfl))
 f297:=Tryz.func215.trans (congrArg some (by kernel_rfl))
 f298:=Tryz.func216.trans (congrArg some (by kernel_rfl))
 f299:=Tryz.func217.trans (congrArg some (by kernel_rfl))
 f300:=Tryz.func219.trans (congrArg some (by kernel_rfl))
 f301:=Tryz.func220.trans (congrArg some (by kernel_rfl))
 f328:=Tryz.func237.trans (congrArg some (by kernel_rfl))
 f329:=Tryz.func238.trans (congrArg some (by kernel_rfl))
 f330:=Tryz.func239.trans (congrArg some (by kernel_rfl))
 f331:=Tryz.func240.trans (congrArg some (by kernel_rfl))
 f332:=Tryz.func241.trans (congrArg some (by kernel_rfl))
 f343:=Tryz.func254.trans (congrArg some (by kernel_rfl))
 t0:=Tryz.underlying0
 a0:=Tryz.isAgg0
 z0:=Tryz.sizeOf0
 v0:=Tryz.zeroValue0
 t3:=Tryz.underlying3
 a3:=Tryz.isAgg3
 z3:=Tryz.sizeOf3
 v3:=Tryz.zeroValue3
 t4:=Tryz.underlying4
 a4:=Tryz.isAgg4
 z4:=Tryz.sizeOf4
 v4:=Tryz.zeroValue4
 t5:=Tryz.underlying5
 a5:=Tryz.isAgg5
 z5:=Tryz.sizeOf5
 v5:=Tryz.zeroValue5
 t9:=Tryz.underlying9
 a9:=Tryz.isAgg9
 z9:=Tryz.sizeOf9
 v9:=Tryz.zeroValue9
 t28:=Tryz.underlying28
 a28:=Tryz.isAgg28
 z28:=Tryz.sizeOf28
 v28:=Tryz.zeroValue28
 t46:=Tryz.underlying218
 a46:=Tryz.isAgg218
 z46:=Tryz.sizeOf218
 v46:=Tryz.zeroValue218
 t51:=Tryz.underlying239
 a51:=Tryz.isAgg239
 z51:=Tryz.sizeOf239
 v51:=Tryz.zeroValue239
 t53:=Tryz.underlying252
 a53:=Tryz.isAgg252
 z53:=Tryz.sizeOf252
 v53:=Tryz.zeroValue252
 t131:=Tryz.underlying88
 a131:=Tryz.isAgg88
 z131:=Tryz.sizeOf88
 v131:=Tryz.zeroValue88
 t182:=Tryz.underlying243
 a182:=Tryz.isAgg243
 z182:=Tryz.sizeOf243
 v182:=Tryz.zeroValue243
 t183:=Tryz.underlying244
 a183:=Tryz.isAgg244
 z183:=Tryz.sizeOf244
 v183:=Tryz.zeroValue244
 t218:=Tryz.underlying263
 a218:=Tryz.isAgg263
 z218:=Tryz.sizeOf263
 v218:=Tryz.zeroValue263
 t222:=Tryz.underlying101
 a222:=Tryz.isAgg101
 z222:=Tryz.sizeOf101
 v222:=Tryz.zeroValue101
 t228:=Tryz.underlying273
 a228:=Tryz.isAgg273
 z228:=Tryz.sizeOf273
 v228:=Tryz.zeroValue273
 t229:=Tryz.underlying207
 a229:=Tryz.isAgg207
 z229:=Tryz.sizeOf207
 v229:=Tryz.zeroValue207 }
open Go.Sort Go.RowKit in
theorem Tryz.slices_Sort_int(A B C:Nat)(F:List Int)(w:World)(H:Holds (Value.int .i64) w A B F.toArray)(D:A<w.heap.size)(G:F.length<4611686018427387904):
 Calls Tryz.prog 101 #[.slice (some ⟨A,B,none⟩) F.length C] w fun e w'=>
  e= .returned (.tuple #[])/\∃n I,w'=grow (putRow (Value.int .i64) (Sort.ahead w n) A B (F.mergeSort fun x y=>decide (x<=y)).toArray) I:=Any.slices_Sort_int Tryz.TU A B C F w H D G
open Go.RowKit Go.Sort in
theorem Tryz.slices_Sort_int_none(p:Option Addr)(A:Nat)(w:World):
 Calls Tryz.prog 101 #[.slice p 0 A] w fun e w'=>e= .returned (.tuple #[])/\w'=w:=Any.slices_Sort_int_none Tryz.TU p A w
end Go.Proofs
namespace Go.Proofs.YtoepemlnlpamlaaGreat
open Go.RowKit Go.Sort
abbrev bL(l:List Int):List Value:=l.map (Value.int .i64)
theorem RF(v:Value)(base n:Nat)(C:List Int)(w:World)(h:aG w base 3 1 v n (bL C))(l:n<=1000000):
 Calls Tryz.prog 101 #[v] w fun e w'=>e= .returned (.tuple #[])/\aG w' base 3 1 v n (bL (C.mergeSort fun x y=>decide (x<=y)))/\w.grownBy w' v.ownBlock:=by
 have Q:C.length=n:=by have:=h.1;simpa using this
 by_cases T:n=0
 ·subst T
  have t:C=[]:=List.eq_nil_of_length_eq_zero Q;subst t;obtain⟨A,c,U,_,_⟩:=h.shape;subst U;refine(Tryz.slices_Sort_int_none A c w).mono ?_;rintro e w' ⟨rfl,rfl⟩;exact⟨rfl,by simpa using h,⟨rfl,rfl,rfl,ab9 _,fun _ _ _=>rfl⟩⟩
 rcases h.2 with⟨_,P⟩| ⟨g,B,F,cur,rfl,X,I,u,z,f,d⟩
 ·omega
 have G:g<w.heap.size:=(acd.1 I).1
 have W:Holds (Value.int .i64) w g B C.toArray:=by
  intro j H;have J:j<C.length:=by simpa using H
  refine⟨?_,by simp[World.frozen?,I]⟩;obtain⟨m,R,O,N,_,_,_,_,Y⟩:=h.form (by omega);cases N
  refine Y j _ ?_;simp[J]
 rw[<- Q];refine(Tryz.slices_Sort_int g B F C w W G (by omega)).mono ?_;rintro e w' ⟨rfl,q,r,rfl⟩
 have D:(grow (putRow (Value.int .i64) (Sort.ahead w q) g B (C.mergeSort fun x y=>decide (x<=y)).toArray) r).heap[g]? =some (.cells (putCells (Value.int .i64) B (C.mergeSort fun x y=>decide (x<=y)).toArray cur) 3 (0,0)):=by
  rw[heap_grow_old _ _ (by simpa using G)];simp[putRow,mapBlock,Sort.ahead,Array.getElem?_modify,I,onCells]
 refine⟨rfl,⟨by simp,.inr ⟨g,B,F,_,rfl,X,D,by omega,z,by simp[putCells];omega,?_⟩⟩,⟨rfl,rfl,rfl,by simp,fun k Z L=>?_⟩⟩
 ·apply List.ext_getElem?
  intro j;by_cases H:j<C.length
  ·rw[Nat.mul_one,List.getElem?_take_of_lt H,List.getElem?_drop,Array.getElem?_toList]
   have P:B+j<cur.size:=by omega
   simp[putCells,H,P]
  rw[Nat.mul_one,List.getElem?_take_eq_none (by omega),List.getElem?_eq_none (by simp;omega)]
 rw[heap_grow_old _ _ (by simpa using Z)];have S:g≠k:=fun e=>L (by simp[Value.ownBlock,e])
 simp[putRow,mapBlock,Sort.ahead,Array.getElem?_modify,S]
end Go.Proofs.YtoepemlnlpamlaaGreat
namespace Go.Proofs.YtoepemlnlpamlaaGreat
open Go.RowKit
section
variable {K:Type} [DecidableEq K] {V:Type}
theorem Qh(f:V->Value)(k:K):∀(l:List (K×V)) (i:Nat),(mq k (l.map fun x=>(x.1,f x.2)) i).map (·.2)=(bK l k).map f
 | [],_=>rfl
 | x::l,i=>by
  simp only[List.map_cons,mq,bK];by_cases h:k=x.1
  ·rw[if_pos h,if_pos h];rfl
  rw[if_neg h,if_neg h];exact Qh f k l (i+1)
theorem GD(f:V->Value)(l:List (K×V))(k:K):mM (l.map fun x=>(x.1,f x.2)) k=(bK l k).map f:=Qh f k l 0
theorem Gq(x:K×Value)(m:List (K×Value))(k:K)(v:Value)(h:k≠x.1):oD (x::m) k v=x::oD m k v:=by
 unfold oD
 have A:mq k (x::m) 0=(mq k m 0).map fun y=>(1+y.1,y.2):=by
  show(if k=x.1 then _ else mq k m (0+1))=_;rw[if_neg h,Nat.zero_add];exact KQ k m 1 0
 rw[A]
 cases B:mq k m 0 with
 | none=>rfl
 | some y=>simp[Nat.add_comm 1]
theorem PR(x:K×Value)(m:List (K×Value))(k:K)(v:Value)(h:k=x.1):oD (x::m) k v=(k,v)::m:=by
 unfold oD
 have A:mq k (x::m) 0=some (0,x.2):=by
  show(if k=x.1 then _ else _)=_;rw[if_pos h]
 rw[A];rfl
theorem JF(f:V->Value)(k:K)(v:V):∀(l:List (K×V)),oD (l.map fun x=>(x.1,f x.2)) k (f v)=(dZ l k v).map fun x=>(x.1,f x.2)
 | []=>rfl
 | x::l=>by
  simp only[List.map_cons,dZ];by_cases h:k=x.1
  ·rw[if_pos h,PR _ _ _ _ h];rfl
  rw[if_neg h,Gq _ _ _ _ h,JF f k v l];rfl
end
theorem aG.set1{w:World}{base:Nat}{e:TypeId}{g A c n:Nat}{G:List Value}(h:aG w base e 1 (.slice (some ⟨g,A,none⟩) n c) n G)(i:Nat)(T:i<n)(u:Value):
 aG (w.setCell ⟨g,A+i,none⟩ u) base e 1 (.slice (some ⟨g,A,none⟩) n c) n (G.set i u):=by
 refine⟨by simpa using h.1,?_⟩;rcases h.2 with⟨H,_⟩| ⟨S,R,Q,D,F,I,J,N,L,O,P⟩
 ·cases H
 simp only[Value.slice.injEq,acf,Addr.mk.injEq]at F;obtain⟨⟨rfl,rfl,_⟩,_,rfl⟩:=F;refine .inr ⟨g,A,c,D.setIfInBounds (A+i) u,rfl,I,by simp[World.setCell,Array.getElem?_modify,J],N,L,by simpa using O,?_⟩;rw[<- P,Array.toList_setIfInBounds];apply List.ext_getElem?
 intro j;simp only[List.getElem?_take,List.getElem?_drop,List.getElem?_set,List.length_take,List.length_drop];by_cases C:j<n*1
 ·rw[if_pos C,if_pos C]
  by_cases B:i=j
  ·subst B
   have:A+i<D.size:=by omega
   simp[this];omega
  simp[B]
 rw[if_neg C,if_neg C];have:i≠j:=by omega
 simp[this]
theorem aY.rX{K:Type}[DecidableEq K]{KK:nW K}{w:World}{r g:Nat}{m:List (K×Value)}{t:TypeId}{B:Array Value}(h:aY KK w r m)(D:ah w g t B):r≠g:=by
 rintro rfl;obtain⟨F,A,C,_⟩:=h;have:w.heap[r]? =some (.cells B t (0,0)):=D;rw[C]at this;cases this
theorem aG.obj{w:World}{base:Nat}{e:TypeId}{size:Nat}{v:Value}{n:Nat}{D:List Value}(h:aG w base e size v n D):∀g,v.ownBlock=some g->∃cur,w.heap[g]? =some (.cells cur e (0,0)):=by
 intro g B;rcases h.2 with⟨rfl,_⟩| ⟨H,G,F,C,rfl,_,A,_⟩
 ·cases B
 simp[Value.ownBlock]at B;subst B;exact⟨C,A⟩
theorem aY.iM{K:Type}[DecidableEq K]{KK:nW K}{w:World}{r:Nat}{m:List (K×Value)}{base:Nat}{e:TypeId}{size:Nat}{v:Value}{n:Nat}{G:List Value}(h:aY KK w r m)(D:aG w base e size v n G):v.ownBlock≠some r:=by
 intro F;obtain⟨cur,B⟩:=D.obj r F;obtain⟨H,A,C,_⟩:=h;rw[C]at B;cases B
def uD(l:List (Int×Int)):List (Int×Value):=l.map fun x=>(x.1,.int .i64 x.2)
def jM(l:lL):List (ByteArray×Value):=l.map fun x=>(x.1,.int .i64 x.2)
def bQ(d:Dc):List Value:=[.int .i64 d.kind,.string d.name,.int .i64 d.node,.int .i64 d.owner]
def gW(p:Int×Dg):List Value:=[.int .i64 p.1,.int .i64 p.2.code,.int .i64 p.2.at_,.int .i64 p.2.end_,.string p.2.text,.slice none 0 0]
structure RC where
 base:Nat
 rp:Nat
 g:Nat
 f:Nat
 k:Nat
 vi:Nat
 uA:Option Addr
 uc:Nat
structure RV where
 dA:Option Addr
 dc:Nat
 pA:Option Addr
 pc:Nat
 vals:List (Int×Value)
def fJ(w:World)(base:Nat)(ub:Option Nat):List (Int×List Int)->List (Int×Value)->Prop
 | [],vals=>vals=[]
 | x::l,vals=> ∃v vs,vals=(x.1,v)::vs/\aG w base 3 1 v x.2.length (bL x.2)/\(∀g,v.ownBlock=some g->ub≠some g/\∀y∈vs,y.2.ownBlock≠some g)/\fJ w base ub l vs
theorem fJ.of_block{w w':World}{base:Nat}{A:Option Nat}:∀{l:List (Int×List Int)}{vals:List (Int×Value)},fJ w base A l vals ->
 (∀g cur,w.heap[g]? =some (.cells cur 3 (0,0))->A≠some g->w'.heap[g]? =w.heap[g]?)->fJ w' base A l vals
 | [],_,h,_=>h
 | _::_,_,⟨v,vs,h1,h2,h3,h4⟩,hk=>⟨v,vs,h1,h2.of_block fun g B=>by obtain⟨cur,C⟩:=h2.obj g B;exact hk g cur C (h3 g B).1,h3,fJ.of_block h4 hk⟩
structure aQ (E:RC) (G:bf) (r:RS) (V:RV) (w:World):Prop where
 blk:ah w E.rp 75 #[.map (some E.g),.map (some E.f),.map (some E.k),.slice V.dA r.ds.length V.dc,.slice E.uA r.uses.length E.uc,.map (some E.vi),.slice V.pA r.aU.length V.pc,.int .i64 (r.next:Int),.int .i64 r.owner]
 gl:aY jS w E.g (jM G.globals)
 fl:aY jS w E.f (jM G.fields)
 kn:aY iU w E.k (uD G.kinds)
 vi:aY iU w E.vi V.vals
 aP:fJ w E.base (Value.slice E.uA r.uses.length E.uc).ownBlock r.aP V.vals
 ds:aG w E.base 49 4 (.slice V.dA r.ds.length V.dc) r.ds.length (r.ds.flatMap bQ)
 us:aG w E.base 3 1 (.slice E.uA r.uses.length E.uc) r.uses.length (bL r.uses)
 ps:aG w E.base 80 6 (.slice V.pA r.aU.length V.pc) r.aU.length (r.aU.flatMap gW)
 low:E.base<=E.rp/\E.base<=E.vi
 apart:E.vi≠E.g/\E.vi≠E.f/\E.vi≠E.k
def Tp(E:RC)(M:Nat->Prop)(w:World)(g:Nat):Prop:=
 E.base<=g/\((∃cs t fr,w.heap[g]? =some (.cells cs t fr)/\(t=75\/t=80\/t=49\/E.uA.map (·.block)=some g))\/((∃es ck,w.heap[g]? =some (.map es ck))/\M g))
def KX(E:RC)(M:Nat->Prop)(w w':World):Prop:=ak (Tp E M w) w w'
section
variable {E:RC}{M M':Nat->Prop}{w w1 w':World}
theorem KX.refl(E:RC)(M:Nat->Prop)(w:World):KX E M w w:=ak.refl _ _
theorem KX.trans(h:KX E M w w1)(k:KX E M' w1 w')(I:∀g,M' g->M g\/w.heap.size<=g):KX E M w w':=by
 refine h.step k fun g L=>?_
 by_cases A:g<w.heap.size
 ·left
  by_cases D:Tp E M w g
  ·exact D
  have J:=h.block g A D;obtain⟨F,B⟩:=L;rw[J]at B;refine⟨F,B.imp id fun⟨G,H⟩=>⟨G,?_⟩⟩;rcases I g H with C|C
  ·exact C
  omega
 right
 omega
theorem KX.mono(h:KX E M w w')(F:∀g,M g->M' g):KX E M' w w':=ak.mono h fun _ ⟨A,B⟩=>⟨A,B.imp id fun⟨C,D⟩=>⟨C,F _ D⟩⟩
theorem KX.of_below(A:Below w.heap.size w w'):KX E M w w':=(ak.refl _ _).below A
theorem KX.low(h:KX E M w w')(A:E.base<=w.heap.size):Below E.base w w':=ak.toBelow h A fun _ B=>B.1
theorem KX.blk(h:KX E M w w'){g:Nat}{t:TypeId}{D:Array Value}(F:ah w g t D)(I:t≠75)(J:t≠80)(L:t≠49)(N:E.uA.map (·.block)≠some g):ah w' g t D:=by
 refine ah.since F h fun⟨_,O⟩=>?_
 have C:w.heap[g]? =some (.cells D t (0,0)):=F;rcases O with⟨G,R,H,B,A⟩| ⟨⟨Q,P,B⟩,_⟩
 ·rw[C]at B
  simp at B;obtain⟨_,rfl,_⟩:=B;rcases A with A|A|A|A
  ·exact I A
  ·exact J A
  ·exact L A
  exact N A
 rw[C]at B;cases B
theorem KX.abI{K:Type}[DecidableEq K]{KK:nW K}{r:Nat}{m:List (K×Value)}(h:KX E M w w')(B:aY KK w r m)(J:¬M r):aY KK w' r m:=by
 refine aY.since B h fun⟨_,H⟩=>?_
 obtain⟨F,C,I,_⟩:=B;rcases H with⟨D,N,G,A,L⟩| ⟨_,A⟩
 ·rw[I]at A
  cases A
 exact J A
end
def bY(w:World)(base:Nat):Option Addr->aR->List Nat->Prop
 | p,[],ms=>p=none/\ms=[]
 | p,x::s,ms=> ∃b m p' ms',p=some ⟨b,0,none⟩/\ms=m::ms'/\base<=b/\base<=m/\ah w b 95 #[.pointer p',.map (some m)]/\aY jS w m (jM x)/\bY w base p' s ms'
theorem bY.kx{E:RC}{M:Nat->Prop}{w w':World}(h:KX E M w w')(B:∀g C,E.uA.map (·.block)=some g->w.heap[g]?≠some (.cells C 95 (0,0))):∀{s:aR}{p:Option Addr}{A:List Nat},bY w E.base p s A->(∀m∈A,¬M m)->bY w' E.base p s A
 | [],_,_,hs,_=>hs
 | _::_,_,_,⟨b,m,p',ms',h1,h2,h3,h4,h5,h6,h7⟩,hM=>by
  subst h2;exact⟨b,m,p',ms',h1,rfl,h3,h4,h.blk h5 (by decide) (by decide) (by decide) (fun D=>B b _ D h5),h.abI h6 (hM m (by simp)),bY.kx h B h7 fun x F=>hM x (by simp[F])⟩
theorem Jy(w:World):(zeroValue 3).run Tryz.prog w= .ok (.int .i64 0) w:=by go_simp
theorem oH(w:World)(r:Nat)(l:lL)(h:aY jS w r (jM l))(x:ByteArray):
 (Instr.lookup 70 (.map (some r)) (.string x) true).run Tryz.prog w= .ok (.tuple #[.int .i64 ((bK l x).getD 0),.bool (bK l x).isSome]) w:=by
 have:=wG (P:=Tryz.prog) (KK:=jS) (t:=70) (kt:=9) (et:=3) Tryz.underlying70 Tryz.underlying9 Jy h x;unfold jM at this;rw[GD]at this
 cases A:bK l x with
 | none=>rw[A]at this;exact this
 | some k=>rw[A]at this;exact this
theorem Yk(p:Option Addr)(w:World):
 Calls Tryz.prog 48 #[.pointer p] w fun e w'=> ∃b m,e= .returned (.pointer (some ⟨b,0,none⟩))/\w.heap.size<=b/\w.heap.size<=m/\ah w' b 95 #[.pointer p,.map (some m)]/\aY jS w' m []/\Below w.heap.size w w':=by
 have A:=@run_makeMap Tryz.prog;go_in
 go_wp2_with fail
 go_ret
 refine⟨w.heap.size+1,w.heap.size,rfl,by omega,ab9 _,?_,(aY.made w).alloc _,(ai _ _).trans ((ai _ _).mono (by simp))⟩;have:=ah.new (w.alloc (.map #[] 0)) 95 #[.pointer p,.map (some w.heap.size)];simpa using this
theorem Rk(base:Nat)(x:ByteArray)(w:World):∀(s:aR) (p:Option Addr) (G:List Nat),bY w base p s G ->
 Calls Tryz.prog 45 #[.pointer p,.string x] w fun e w'=>e= .returned (.tuple #[.int .i64 ((fF s x).getD 0),.bool (fF s x).isSome])/\w'=w:=by
 intro s
 induction s with
 | nil=>
  rintro p G ⟨rfl,-⟩;go_in
  go_wp2_with fail
  go_ret2
  exact⟨rfl,rfl⟩
 | cons l s ih=>
  rintro p G ⟨b,m,O,H,rfl,rfl,R,S,F,I,J⟩;have A:=ih O H J;have B:=oH w m l I x;have P:=F.cell 0;have Q:=F.cell 1;have L:=F.lt;clear ih F I J
  cases C:bK l x with
  | none=>
   rw[C]at B;simp only[Option.getD_none,Option.isSome_none]at B
   have D:fF (l::s) x=fF s x:=by
    show(match aV l x with|some k=>some k|none=>fF s x)=_;rw[show aV l x=none from C]
   rw[D];generalize fF s x=fx at A⊢
   clear D C;have N:=kH A;clear A;go_in
   go_wp2_with fail
   refine N.out.mono ?_;rintro e w' ⟨rfl,rfl⟩;go_wp2_with fail
   go_ret2
   exact⟨rfl,rfl⟩
  | some k=>
   rw[C]at B;simp only[Option.getD_some,Option.isSome_some]at B
   have D:fF (l::s) x=some k:=by
    show(match aV l x with|some k=>some k|none=>fF s x)=_;rw[show aV l x=some k from C]
   rw[D];clear D C A;go_in
   go_wp2_with fail
   go_ret2
   exact⟨rfl,rfl⟩
theorem mH:(Tryz.prog.info? 3).map (fun i=>(i.zero,i.size,i.bytes))=some (some (.int .i64 0),1,8):=by kernel_rfl
def unInt:Value->Int
 | .int _ z=>z
 | _=>0
theorem aaF{a b:List Int}(h:(bL a).Perm (bL b)):a.Perm b:=by
 have:=h.map unInt;simpa [bL,List.map_map,Function.comp_def,unInt] using this
theorem XB{a b:List Int}(h:a.Perm b):(a.mergeSort fun x y=>decide (x<=y))=aF b:=by
 unfold aF;have B:∀x y z:Int,(decide (x<=y))=true->(decide (y<=z))=true->(decide (x<=z))=true:=by intro x y z C D;simp at*;omega
 have A:∀x y:Int,(decide (x<=y) || decide (y<=x))=true:=by intro x y;simp;omega
 refine List.Perm.eq_of_pairwise (le:=fun x y=>x<=y) ?_ ?_ ?_ ?_
 ·intro x y _ _ C D;omega
 ·exact(List.pairwise_mergeSort B A a).imp (by simp)
 ·exact(List.pairwise_mergeSort B A b).imp (by simp)
 exact(List.mergeSort_perm a _).trans (h.trans (List.mergeSort_perm b _).symm)
theorem bY.below{w w':World}{base:Nat}(A:Below w.heap.size w w'):∀{s:aR}{p:Option Addr}{B:List Nat},bY w base p s B->bY w' base p s B
 | [],_,_,hs=>hs
 | _::_,_,_,⟨b,m,p',ms',h1,h2,h3,h4,h5,h6,h7⟩=>⟨b,m,p',ms',h1,h2,h3,h4,h5.below A h5.lt,h6.below A h6.lt,bY.below A h7⟩
theorem ma.iM{K:Type}[DecidableEq K]{KK:nW K}{w:World}{r b:Nat}{m:List (K×Value)}{left:List (Value×Value)}{base:Nat}{e:TypeId}{size:Nat}{v:Value}{n:Nat}{H:List Value}(h:ma KK w r b m left)(F:aG w base e size v n H):v.ownBlock≠some b:=by
 intro G;obtain⟨cur,B⟩:=F.obj b G;obtain⟨J,A,C,I,L,N,O,P,D,_⟩:=h;rw[D]at B;cases B
theorem ma.grown{K:Type}[DecidableEq K]{KK:nW K}{w w':World}{r b:Nat}{m:List (K×Value)}{left:List (Value×Value)}(h:ma KK w r b m left){A:Option Nat}(C:w.grownBy w' A)(F:A≠some r)(G:A≠some b):ma KK w' r b m left:=by
 have J:=h.sQ.lt
 have I:b<w.heap.size:=by
  obtain⟨N,B,D,L,_,_,_,_,H,_⟩:=h;exact(acd.1 H).1
 exact h.keep (C.block r J (Ne.symm F)) (C.block b I (Ne.symm G))
theorem ma.alloc{K:Type}[DecidableEq K]{KK:nW K}{w:World}{r b:Nat}{m:List (K×Value)}{left:List (Value×Value)}(h:ma KK w r b m left)(o:Obj):ma KK (w.alloc o) r b m left:=
 h.grown (World.grownBy_alloc w o none) (by simp) (by simp)
theorem Ut(base:Nat)(s:aR)(p:Option Addr)(ms:List Nat)(w:World)(hs:bY w base p s ms)(hn:(aH s).length<=1000000):
 Calls Tryz.prog 145 #[.pointer p] w fun e w'=> ∃v,e= .returned v/\aG w' w.heap.size 3 1 v (aH s).length (bL (aF (aH s)))/\Below w.heap.size w w':=by
 obtain⟨i0,ax,b0,b1,b2⟩:=info_parts mH;have HN:=kH hn;have HS:=kH hs;clear hn hs;go_in
 go_wp2_with fail
 go_loopg [3,4] s.length (fun gk s3 s4 wr=> ∃(s1 x:aR) (p2:Option Addr) (zX:List Nat) (A:Option Addr) (n c:Nat) (L:List Int),gk=x.length/\s=s1++x/\s4= .pointer p2/\s3= .slice A n c/\Hid (bY w base p2 x zX)/\Hid (aG wr w.heap.size 3 1 (.slice A n c) n (bL L))/\Hid (L.Perm (aH s1))/\Hid (Below w.heap.size w wr))
 case atStart=>exact⟨[],s,p,ms,none,0,0,[],rfl,rfl,rfl,rfl,HS,kH (aG.nil _ _ _ _),kH List.Perm.nil,kH (Below.refl _ _)⟩
 obtain⟨s1,x,p2,zX,A,n,c,L,FQ,S,rfl,rfl,W,T,HP,HB⟩:=hrel
 cases x with
 | nil=>
  obtain⟨rfl,rfl⟩:=W.out;have z:s=s1:=by simpa using S
  have ad:L.length=n:=by simpa using T.out.1
  have ab:n=(aH s).length:=by rw[<- ad,z];exact HP.out.length_eq
  have an:=kH ab;have G:=RF (.slice A n c) w.heap.size n L wr T.out (by have:=HN.out;omega);have HC:=kH G;have aq:=kH z;clear G ab ad z S;go_wp2_with fail
  refine HC.out.mono ?_;rintro e w5 ⟨rfl,jE,a8⟩;have a7:Below w.heap.size w w5:=HB.out.trans (((ak.refl (fun g=>w.heap.size<=g) wr).grown a8 (fun g D=>.inl (T.out.lt g D).1)).toBelow HB.out.size (fun g D=>D));rw[XB HP.out,<- aq.out]at jE;have ao:=kH jE;have kF:=kH a7;clear jE a7 a8;go_wp2_with fail
  go_ret
  exact⟨_,rfl,by have:=ao.out;rw[an.out]at this⊢;exact this,kF.out⟩
 | cons l x=>
  obtain⟨b,m,p',b3,rfl,rfl,h1,h2,F,R,af⟩:=W.out;have u:=HB.out;have hb:=F.below u F.lt;have hm:=R.below u R.lt;have c0:=hb.cell 0;have c1:=hb.cell 1;have b5:=hb.lt;obtain⟨w1,b8,aa,Y,az⟩:=Be (P:=Tryz.prog) (t:=70) (kt:=9) (et:=3) Tryz.underlying70 hm;have b4:=F.lt;have b6:=R.lt;have k:=kH aa;have jv:=T.out.below Y (fun g D=>(T.out.lt g D).2);have qx:=kH jv;have al:=kH (u.trans (Y.mono u.size));have tO:=kH F;have iJ:=kH af;have Md:Hid (w.heap.size<=wr.heap.size):=kH u.size
  have f:Hid (n+l.length<=1000000):=kH (by
   have C:=HN.out;rw[S]at C;unfold aH at C;simp only[List.flatMap_append,List.flatMap_cons,acm,List.length_map]at C;have h6:=HP.out.length_eq;unfold aH at h6;have h7:L.length=n:=by simpa using T.out.1
   omega)
  clear aa Y u hb af hm W jv F R;go_wp2_with fail
  obtain⟨wo,aE⟩:∃wo:World,wo=wr:=⟨_,rfl⟩
  subst aE;obtain⟨go,aw⟩:∃go:Nat,go=gk:=⟨_,rfl⟩
  subst aw;obtain⟨it, zP⟩:=ag wo.heap.size;rw[zP]at k Md⊢;go_loopg [3] l.length (fun gk s3 wr=> ∃(r:Option Addr) (J d:Nat) (B:List Int) (left:List (Value×Value)),gk=left.length/\s3= .slice r J d/\Hid (ma jS wr m it (jM l) left)/\Hid (aG wr w.heap.size 3 1 (.slice r J d) J (bL B))/\Hid ((bL B++left.map (·.2)).Perm (bL L++(jM l).map (·.2)))/\Hid (Below w.heap.size w wr))
  case atStart=>exact⟨A,n,c,L,_,by simp[jM],rfl,k,qx,kH (by simp[jM,List.map_map,Function.comp_def]),al⟩
  obtain⟨r,J,d,B,left,av,rfl,HI,Q,U,N⟩:=hrel;rcases CK (P:=Tryz.prog) 0 HI.out (by have:=Md.out;omega) with⟨hl0,hnx⟩| ⟨kv,vv,left',w2,hperm,hmem,hnx,hit2,Bo,hsz2,hent⟩
  ·subst hl0
   have Z:=tO.out.below N.out tO.out.lt;have c0:=Z.cell 0;have ay:=Z.lt
   have zC:Hid (B.Perm (aH (s1++[l]))):=kH (by
    have C:=U.out;simp only[List.map_nil,List.append_nil]at C;have h6:(jM l).map (·.2)=bL (l.map (·.2)):=by simp[jM,List.map_map,Function.comp_def]
    rw[h6]at C;have h7:=aaF (b:=L++l.map (·.2)) (by simpa [bL] using C);unfold aH;simp only[List.flatMap_append,List.flatMap_cons,List.flatMap_nil,List.append_nil]
    exact h7.trans (HP.out.append_right _))
   clear Z;go_wp2_with fail
   go_roundg (go - 1)
   case measure=>simp at FQ;omega
   exact⟨s1++[l],x,p',b3,r,J,d,B,by simp at FQ;omega,by simp[S],rfl,rfl,iJ,Q,zC,N⟩
  obtain⟨y,hy⟩:∃y:Int,vv= .int .i64 y:=by
   simp only[jM,List.map_map,List.mem_map,Function.comp_def,Prod.mk.injEq]at hmem;obtain⟨q,_,_,C⟩:=hmem;exact⟨q.2,C.symm⟩
  subst hy;have a6:=Q.out.since Bo (fun g D C=>HI.out.iM Q.out (by rw[D,C]));have BH:=kH a6;have X:=kH hit2;have O:Hid (Below w.heap.size w w2):=kH (N.out.trans (Bo.toBelow (by have:=N.out.size;omega) (fun g D=>by have:=Md.out;omega)));have Mf:=kH hperm
  have b7:J<=1000000:=by
   have C:=U.out.length_eq;have h6:B.length=J:=by simpa using Q.out.1
   have h7:L.length=n:=by simpa using T.out.1
   have h8:=f.out;simp[jM]at C;omega
  clear hmem hperm hit2 Bo a6 hsz2;go_wp2_with (at_builtin;go_must (refine dW _ rfl (.tmp 23) (.tmp 25) _ rfl w.heap.size 3 i0 _ 1 8 Tryz.underlying28 ax b0 b1 b2 rfl (.slice r J d) J (bL B) rfl (BH.out.alloc _) ⟨w2.heap.size,0,none⟩ 1 1 [.int .i64 y] rfl rfl (lU _ _ _ (by go_simp)) (by simp[Value.oneCell']) (by simp only[maxLen];omega) (by omega) (by have:=O.out.size;simp;omega) ?_);intro vn w6 I H au;obtain⟨A6,c6,qj,-,-⟩:=I.shape;subst qj;have j:=kH I;have xD:=kH H;clear I H au)
  have a1:=BH.out.lt;have ar:ma jS w6 m it (jM l) left':=(X.out.alloc _).grown xD.out (X.out.sQ.iM BH.out) (X.out.iM BH.out);have Cj:Below w.heap.size w w6:=(O.out.trans ((ai _ _).mono O.out.size)).trans (((ak.refl (fun g=>w.heap.size<=g) _).grown xD.out (fun g D=>.inl (a1 g D).1)).toBelow (by have:=O.out.size;simp;omega) (fun g D=>D));go_roundg (gk - 1)
  case measure=>have:=Mf.out.length_eq;simp at this;omega
  refine⟨A6,J+1,c6,B++[y],left',by have:=Mf.out.length_eq;simp at this;omega,rfl,kH ar,kH (by simpa [bL] using j.out),kH ?_,kH Cj⟩;refine List.Perm.trans ?_ U.out;have C:=Mf.out.map (·.2);simp only[List.map_cons]at C;simp only[bL,List.map_append,List.map_cons,List.map_nil,List.append_assoc,List.singleton_append];exact C.symm.append_left _
mutual
def jH(w:World)(B:Nat):ae->List Value->Prop
 | .node k t a e kids,cs=> ∃A c,cs=[.int .i64 k,.string t,.int .i64 a,.int .i64 e,.slice A kids.length c]/\kids.length<=c/\aD w B A 0 kids
def aD(w:World)(B:Nat)(A:Option Addr):Nat->List ae->Prop
 | _,[]=>True
 | i,t::ts=>(∃b off vals,A=some ⟨b,off,none⟩/\b<B/\(∀j v,vals[j]? =some v->w.cell? ⟨b,off+i*5+j,none⟩=some v)/\jH w B t vals)/\aD w B A (i+1) ts
end
mutual
theorem jH.below{w w':World}{B C:Nat}(I:Below C w w')(H:B<=C):∀(t:ae) (D:List Value),jH w B t D->jH w' B t D
 | .node _ _ _ _ kids,_,h=>by
  obtain⟨A,c,F,J,G⟩:=h;exact⟨A,c,F,J,aD.below I H kids A 0 G⟩
theorem aD.below{w w':World}{B C:Nat}(D:Below C w w')(G:B<=C):∀(ts:List ae) (A:Option Addr) (i:Nat),aD w B A i ts->aD w' B A i ts
 | [],_,_,_=>trivial
 | t::ts,A,i,h=>by
  obtain⟨⟨b,F,vals,H,I,J,L⟩,N⟩:=h;exact⟨⟨b,F,vals,H,I,fun j v O=>(D.cell (p:=⟨b,_,none⟩) (by show b<C;omega)).trans (J j v O),jH.below D G t vals L⟩,aD.below D G ts A (i+1) N⟩
end
mutual
theorem jH.mono{w:World}{B C:Nat}(H:B<=C):∀(t:ae) (D:List Value),jH w B t D->jH w C t D
 | .node _ _ _ _ kids,_,h=>by
  obtain⟨A,c,F,I,G⟩:=h;exact⟨A,c,F,I,aD.mono H kids A 0 G⟩
theorem aD.mono{w:World}{B F:Nat}(C:B<=F):∀(ts:List ae) (A:Option Addr) (i:Nat),aD w B A i ts->aD w F A i ts
 | [],_,_,_=>trivial
 | t::ts,A,i,h=>by
  obtain⟨⟨b,D,vals,G,H,I,J⟩,L⟩:=h;exact⟨⟨b,D,vals,G,Nat.lt_of_lt_of_le H C,I,jH.mono C t vals J⟩,aD.mono C ts A (i+1) L⟩
end
theorem Jj:∀(vals:List (List Value)),(∀v∈vals,v.length=5)->∀(i j:Nat) (v:List Value) (x:Value),vals[i]? =some v->v[j]? =some x->(List.flatten vals)[i*5+j]? =some x
 | [],_,i,j,v,x,h,_=>by simp at h
 | u::vals,hl,0,j,v,x,h,hx=>by
  simp at h;subst h;have B:=(acg.1 hx).1;simp only[List.flatten_cons,Nat.zero_mul,Nat.zero_add];rw[List.getElem?_append_left B];exact hx
 | u::vals,hl,i+1,j,v,x,h,hx=>by
  have A:=hl u (by simp);have:=Jj vals (fun v C=>hl v (by simp[C])) i j v x (by simpa using h) hx;simp only[List.flatten_cons];rw[ack (by rw[A,Nat.add_mul];omega),A];rw[show(i+1)*5+j - 5=i*5+j by rw[Nat.add_mul];omega];exact this
def CellsAt(w:World)(B:Nat)(A:Option Addr)(i:Nat)(vals:List Value):Prop:=∃b off,A=some ⟨b,off,none⟩/\b<B/\∀j v,vals[j]? =some v->w.cell? ⟨b,off+i*5+j,none⟩=some v
theorem aD.get{w:World}{B:Nat}{A:Option Addr}:∀{ts:List ae}{i:Nat},aD w B A i ts->∀(j:Nat) (t:ae),ts[j]? =some t->∃vals,CellsAt w B A (i+j) vals/\jH w B t vals
 | [],_,_,j,t,ht=>by simp at ht
 | u::ts,i,h,0,t,ht=>by
  simp at ht;subst ht;obtain⟨⟨b,F,vals,C,D,G,H⟩,-⟩:=h;exact⟨vals,⟨b,F,C,D,G⟩,H⟩
 | u::ts,i,h,j+1,t,ht=>by
  obtain⟨vals,C,D⟩:=aD.get h.2 j t (by simpa using ht);exact⟨vals,by rw[show i+(j+1)=i+1+j by omega];exact C,D⟩
theorem jH.five{w:World}{B:Nat}{t:ae}{C:List Value}(h:jH w B t C):∃A c,C=[.int .i64 t.kind,.string t.text,.int .i64 t.at_,.int .i64 t.end_,.slice A t.kids.length c]/\aD w B A 0 t.kids:=by
 cases t
 obtain⟨A,c,D,_,F⟩:=h;exact⟨A,c,D,F⟩
theorem jH.cap{w:World}{B:Nat}{t:ae}{k:Int}{x:ByteArray}{a z:Int}{A:Option Addr}{n c:Nat}(h:jH w B t [.int .i64 k,.string x,.int .i64 a,.int .i64 z,.slice A n c]):t.kids.length<=c:=by
 cases t
 obtain⟨F,G,C,D,_⟩:=h;simp only[List.cons.injEq,Value.slice.injEq,and_true]at C;obtain⟨_,_,_,_,_,_,rfl⟩:=C;exact D
theorem dI:∀(ts:List ae) (i:Nat) (t:ae),ts[i]? =some t->aC (ts.take (i+1))=aC (ts.take i)+aB t
 | [],i,t,h=>by simp at h
 | u::ts,0,t,h=>by
  simp at h;subst h;simp[aC]
 | u::ts,i+1,t,h=>by
  have:=dI ts i t (by simpa using h);simp only[List.take_succ_cons,aC];omega
theorem fe:∀(ts:List ae) (i:Nat),aC (ts.take i)<=aC ts
 | [],i=>by simp[aC]
 | u::ts,0=>by simp[aC]
 | u::ts,i+1=>by
  have:=fe ts i;simp only[List.take_succ_cons,aC];omega
theorem mY(t:ae):aB t=1+aC t.kids:=by
 cases t
 rfl
theorem pW(t:ae):1<=aB t:=by
 rw[mY];omega
theorem dO:∀(ts:List ae),ts.length<=aC ts
 | []=>by simp[aC]
 | t::ts=>by
  have:=dO ts;have:=pW t;simp only[aco,aC];omega
def aO(t:ae)(A:Option Addr)(c:Nat):Value:=.agg #[.int .i64 t.kind,.string t.text,.int .i64 t.at_,.int .i64 t.end_,.slice A t.kids.length c]
theorem LZ:∀(m:Nat) (t:ae) (A:Option Addr) (c:Nat) (w:World),aB t<=m->m<=1000000000000->aD w w.heap.size A 0 t.kids ->
 Calls Tryz.prog 39 #[aO t A c] w fun e w'=>e= .returned (.int .i64 (aB t:Int))/\Below w.heap.size w w':=by
 intro m
 induction m with
 | zero=>
  intro t A c w h;have:=pW t;omega
 | succ m ih=>
  intro t A c w hm X hk;have Q:=mY t;obtain⟨C, lF⟩:=ag t.kids;obtain⟨n, hn⟩:=ag C.length;unfold aO;rw[lF]at hk Q⊢;rw[hn];obtain⟨k, Y⟩:=ag t.kind;obtain⟨x, r⟩:=ag t.text;obtain⟨a, W⟩:=ag t.at_;obtain⟨z, q⟩:=ag t.end_;rw[Y,r,W,q];have R:=dO C;have HK:=kH hk;have HN:=kH hn;have Ie:=kH Q;have jo:=kH ih;have l:Hid (aC C<=m/\m<=1000000000000):=kH ⟨by omega,by omega⟩;have av:n<=1000000000000:=by omega
  clear hk Q ih hm X Y r W q lF hn R;go_in
  go_wp2_with fail
  generalize O:w.alloc (.cells #[.int .i64 k,.string x,.int .i64 a,.int .i64 z,.slice A n c] 24)=W1
  have P:Below w.heap.size w W1:=by rw[<- O];exact ai _ _
  have nK:ah W1 w.heap.size 24 #[.int .i64 k,.string x,.int .i64 a,.int .i64 z,.slice A n c]:=by rw[<- O];exact ah.new w _ _
  have g:=kH nK;have S:=kH P;have a8:=nK.lt;have zD:=kH (aD.below P (ab9 _) _ _ _ HK.out);clear O P nK;go_loopg [3,4] n (fun gk s3 s4 wr=> ∃i:Nat,i+gk=n/\s3= .int .i64 ((1+aC (C.take i):Nat):Int)/\s4= .int .i64 (i:Int)/\Below W1.heap.size W1 wr)
  case atStart=>exact⟨0,by omega,by simp[aC],rfl,Below.refl _ _⟩
  obtain⟨i,hi,rfl,rfl,d⟩:=hrel;have N:=g.out.below d a8;have aq:wr.cell? ⟨w.heap.size,4,none⟩=some (.slice A n c):=N.cell 4;have au:=N.lt;have J:=kH d;have HI:=kH hi;have ar:i<=n:=by omega
  have R:=fe C i;have a6:aC (C.take i)<=1000000000000:=by have:=l.out;omega
  clear d N hi R;by_cases ab:i<n
  ·have ad:(i:Int)<(n:Int):=by omega
   obtain⟨u,hu⟩:∃u,C[i]? =some u:=⟨_,ace (by rw[HN.out];exact ab)⟩
   obtain⟨vals,⟨b,I,hA,ao,F⟩,hT⟩:=zD.out.get i u hu;obtain⟨A',c',iY,U⟩:=hT.five;subst hA;subst iY;have an:b<wr.heap.size:=by omega
   have G:b<W1.heap.size:=by omega
   have t0:wr.cell? ⟨b,I+i*5,none⟩=some (.int .i64 u.kind):=(J.out.cell (p:=⟨b,_,none⟩) G).trans (by simpa using F 0 _ rfl);have t1:wr.cell? ⟨b,I+i*5+1,none⟩=some (.string u.text):=(J.out.cell (p:=⟨b,_,none⟩) G).trans (by simpa using F 1 _ rfl);have t2:wr.cell? ⟨b,I+i*5+2,none⟩=some (.int .i64 u.at_):=(J.out.cell (p:=⟨b,_,none⟩) G).trans (by simpa using F 2 _ rfl);have t3:wr.cell? ⟨b,I+i*5+3,none⟩=some (.int .i64 u.end_):=(J.out.cell (p:=⟨b,_,none⟩) G).trans (by simpa using F 3 _ rfl);have t4:wr.cell? ⟨b,I+i*5+4,none⟩=some (.slice A' u.kids.length c'):=(J.out.cell (p:=⟨b,_,none⟩) G).trans (by simpa using F 4 _ rfl);have Z:=dI C i u hu;have aa:=fe C (i+1);have D:=jo.out u A' c' wr (by have:=l.out;omega) l.out.2 (aD.mono (B:=w.heap.size) (by omega) _ _ _ (aD.below J.out (by omega) _ _ _ U));unfold aO at D;have j:=kH D;have f:=kH Z;have af:aB u<=1000000000000:=by have:=l.out;omega
   have aw:IntKind.i64.wrap ((i:Int)+1)=(i:Int)+1:=IntWalk.i64_in _ (by omega);have v:IntKind.i64.wrap (((1+aC (C.take i):Nat):Int)+(aB u:Int))=((1+aC (C.take i):Nat):Int)+(aB u:Int):=IntWalk.i64_in _ (by omega);obtain⟨un, y⟩:=ag u.kids.length;rw[y]at t4 j;obtain⟨al, H⟩:=ag (1+aC (C.take i));rw[H]at v⊢;have T:=kH H;obtain⟨cu, iR⟩:=ag (aB u);rw[iR]at v j;have Sm:=kH iR;clear F hT U Z aa D hu y H iR a6 af;go_wp2_with fail
   refine j.out.mono ?_;rintro e w2 ⟨rfl,a1⟩;go_wp2_with fail
   go_roundg (gk - 1)
   case measure=>have:=HI.out;omega
   exact⟨i+1,by have:=HI.out;omega,by rw[f.out,<- T.out,<- Sm.out];simp;omega,by simp,J.out.trans (a1.mono J.out.size)⟩
  have a7:i=n:=by omega
  have L:1+aC (C.take i)=aB t:=by rw[Ie.out,a7,<- HN.out,List.take_length]
  rw[L];clear L;go_wp2_with fail
  go_ret
  exact⟨rfl,S.out.trans (J.out.mono S.out.size)⟩
theorem XQ:(Tryz.prog.info? 80).map (fun i=>(i.zero,i.size,i.bytes))=some (some (.agg #[.int .i64 0,.int .i64 0,.int .i64 0,.int .i64 0,.string ⟨#[]⟩,.slice none 0 0]),6,72):=by kernel_rfl
theorem aY.Jm{K:Type}[DecidableEq K]{KK:nW K}{w w':World}{r:Nat}{m:List (K×Value)}(h:aY KK w r m)(A:Below w.heap.size w w'):aY KK w' r m:=h.below A h.lt
theorem aQ.below{E:RC}{G:bf}{r:RS}{V:RV}{w w':World}(h:aQ E G r V w)(A:Below w.heap.size w w'):aQ E G r V w' where
 blk:=h.blk.below A h.blk.lt
 gl:=h.gl.Jm A
 fl:=h.fl.Jm A
 kn:=h.kn.Jm A
 vi:=h.vi.Jm A
 aP:=fJ.of_block h.aP fun g _ B _=>A.block g (acd.1 B).1
 ds:=h.ds.below A fun g B=>(h.ds.lt g B).2
 us:=h.us.below A fun g B=>(h.us.lt g B).2
 ps:=h.ps.below A fun g B=>(h.ps.lt g B).2
 low:=h.low
 apart:=h.apart
theorem aQ.pushP{E:RC}{G:bf}{r:RS}{V:RV}{w C:World}(h:aQ E G r V w)(p:Int×Dg){A3:Option Addr}{c3:Nat}
 (Q:aG C E.base 80 6 (.slice A3 (r.aU.length+1) c3) (r.aU.length+1) (r.aU.flatMap gW++gW p)) (B:w.grownBy C (Value.slice V.pA r.aU.length V.pc).ownBlock) (M:Nat->Prop):
 aQ E G { r with aU:=r.aU++[p] } { V with pA:=A3,pc:=c3 } (C.setCell ⟨E.rp,6,none⟩ (.slice A3 (r.aU.length+1) c3))/\KX E M w (C.setCell ⟨E.rp,6,none⟩ (.slice A3 (r.aU.length+1) c3)):=by
 have L:ak (fun g=>g=E.rp\/(Value.slice V.pA r.aU.length V.pc).ownBlock=some g) w (C.setCell ⟨E.rp,6,none⟩ (.slice A3 (r.aU.length+1) c3)):=
  ((ak.refl _ w).grown B (fun g B=>.inl (.inr B))).setCell (.inl (.inl rfl)) _
 have O:(Value.slice V.pA r.aU.length V.pc).ownBlock≠some E.rp:=h.ps.bB h.blk (by decide);have H:ah C E.rp 75 _:=h.blk.grown B (Ne.symm O)
 have J:∀{K:Type} [DecidableEq K] {KK:nW K}{q:Nat}{m:List (K×Value)},aY KK w q m->aY KK (C.setCell ⟨E.rp,6,none⟩ (.slice A3 (r.aU.length+1) c3)) q m:=fun D=>D.since L (fun A=>by
  rcases A with A|A
  ·exact D.rX h.blk A
  exact D.iM h.ps A)
 have I:∀{e size v n xs},aG w E.base e size v n xs->e≠75->e≠80->aG (C.setCell ⟨E.rp,6,none⟩ (.slice A3 (r.aU.length+1) c3)) E.base e size v n xs:=fun D A S=>D.since L (fun g B F=>by
  rcases F with F|F
  ·exact D.bB h.blk A (by rw[B,F])
  exact D.apart h.ps S g B F)
 refine⟨⟨?_,J h.gl,J h.fl,J h.kn,J h.vi,?_,I h.ds (by decide) (by decide),I h.us (by decide) (by decide),?_,h.low,h.apart⟩,?_⟩
 ·have:=H.dB 6 (.slice A3 (r.aU.length+1) c3)
  simpa using this
 ·refine fJ.of_block h.aP fun g cur B _=>L.block g (acd.1 B).1 fun A=>?_
  rcases A with A|A
  ·subst A
   have T:w.heap[E.rp]? =some (.cells _ 75 (0,0)):=h.blk;rw[T]at B;simp at B
  obtain⟨P,N⟩:=h.ps.obj g A;rw[N]at B;simp at B
 ·have R:(Value.slice A3 (r.aU.length+1) c3).ownBlock≠some E.rp:=Q.bB H (by decide)
  have:=Q.setCell (p:=⟨E.rp,6,none⟩) R (.slice A3 (r.aU.length+1) c3);simpa using this
 refine ak.mono L fun g A=>?_
 rcases A with rfl|A
 ·exact⟨h.low.1,.inl ⟨_,_,_,h.blk,.inl rfl⟩⟩
 obtain⟨cur,U⟩:=h.ps.obj g A;exact⟨(h.ps.lt g A).1,.inl ⟨_,_,_,U,.inr (.inl rfl)⟩⟩
theorem aav(w:World)(g:Nat)(a b c d e f:Value)(B:w.cell? ⟨g,0,none⟩=some a)(C:w.cell? ⟨g,1,none⟩=some b)(D:w.cell? ⟨g,2,none⟩=some c)(F:w.cell? ⟨g,3,none⟩=some d)(G:w.cell? ⟨g,4,none⟩=some e)(H:w.cell? ⟨g,5,none⟩=some f):
 ∀j v,[a,b,c,d,e,f][j]? =some v->w.cell? ((⟨g,0,none⟩:Addr).add j)=some v:=by
 intro j v A
 match j,A with
 | 0,A=>simp at A;subst A;exact B
 | 1,A=>simp at A;subst A;exact C
 | 2,A=>simp at A;subst A;exact D
 | 3,A=>simp at A;subst A;exact F
 | 4,A=>simp at A;subst A;exact G
 | 5,A=>simp at A;subst A;exact H
 | j+6,A=>simp at A
theorem TL(E:RC)(G:bf)(r:RS)(V:RV)(w:World)(h:aQ E G r V w)(hN:r.aU.length<=1000000)(U:E.base<=w.heap.size)(C:Int)(n:Nat)(t:ae)(A:Option Addr)(c:Nat)(M:Nat->Prop):
 Calls Tryz.prog 201 #[.pointer (some ⟨E.rp,0,none⟩),.int .i64 C,.int .i64 (n:Int),aO t A c] w fun e w'=>e= .returned (.tuple #[])/\∃j,aQ E G (pE r C n t) j w'/\KX E M w w':=by
 obtain⟨i0,b,aa,ab,ad⟩:=info_parts XQ;have l:Hid (pE r C n t= { r with aU:=r.aU++[((n:Int),⟨C,t.at_,t.end_,t.text⟩)] }):=kH rfl;unfold aO;obtain⟨q, hq⟩:=ag (pE r C n t);rw[hq]at l⊢;obtain⟨k, Z⟩:=ag t.kind;obtain⟨x, W⟩:=ag t.text;obtain⟨a, T⟩:=ag t.at_;obtain⟨z,J⟩:∃q,t.end_=q:=⟨_,rfl⟩
 obtain⟨m, y⟩:=ag t.kids.length;rw[Z,W,T,J,y];rw[W,T,J]at l;obtain⟨L, qo⟩:=ag r.aU.length;rw[qo]at hN;have H:=kH h;have u:=kH qo;clear hq Z W T J y h qo;go_in
 go_wp2_with fail
 generalize S:w.alloc (.cells #[.int .i64 k,.string x,.int .i64 a,.int .i64 z,.slice A m c] 24)=W1
 have O:Below w.heap.size w W1:=by rw[<- S];exact ai _ _
 have D:ah W1 w.heap.size 24 #[.int .i64 k,.string x,.int .i64 a,.int .i64 z,.slice A m c]:=by rw[<- S];exact ah.new w _ _
 have R:=H.out.below O;have c6:W1.cell? ⟨E.rp,6,none⟩=some (.slice V.pA L V.pc):=by have:=R.blk.cell 6;rw[u.out]at this;exact this
 have f6:=R.blk.frozen 6;have ao:=R.blk.lt;have a6:=D.cell 1;have a7:=D.cell 2;have a8:=D.cell 3;have aq:=D.lt;have I:=R.ps;rw[u.out]at I;have qx:=kH I;have H1:=kH R;have al:=kH D;have X:=kH O;have v:(Value.slice V.pA L V.pc).ownBlock≠some E.rp:=I.bB R.blk (by decide);have P:(Value.slice V.pA L V.pc).ownBlock≠some w.heap.size:=I.bB D (by decide);have fw:=kH v;have yB:=kH P;have an:E.base<=W1.heap.size:=aca U O.size;clear S I R D O v P;refine dF (fun w'=>w'.cell? ⟨E.rp,6,none⟩=some (.slice V.pA L V.pc)/\w'.cell? ⟨w.heap.size,1,none⟩=some (.string x)/\w'.cell? ⟨w.heap.size,2,none⟩=some (.int .i64 a)/\w'.cell? ⟨w.heap.size,3,none⟩=some (.int .i64 z)) [19] [true,true,true,true,true,true,true,true,true,true,true,true,true,true,true,false,false,false,false,false] (by kernel_rfl) (by kernel_rfl) rfl (by kernel_rfl) ?_;have f:W1.drew.cell? ⟨E.rp,6,none⟩=some (.slice V.pA L V.pc)/\W1.drew.cell? ⟨w.heap.size,1,none⟩=some (.string x)/\W1.drew.cell? ⟨w.heap.size,2,none⟩=some (.int .i64 a)/\W1.drew.cell? ⟨w.heap.size,3,none⟩=some (.int .i64 z):=⟨c6,a6,a7,a8⟩
 iterate 15(refine eD rfl f (by intro w' d;obtain⟨ar,au,av,aw⟩:=d;go_simp;rfl) ?_;simp only[Act.put,sA,sZ,sC])
 refine eu (w':=W1.drew.alloc (.cells #[.int .i64 (n:Int),.int .i64 C,.int .i64 a,.int .i64 z,.string x,.slice none 0 0] 80)) rfl (by go_simp;rfl) ?_ ?_
 ·exact fun _=>⟨by go_simp,by go_simp,by go_simp,by go_simp⟩
 simp only[Act.put,sA,sZ,sC];refine jR rfl (fG _ (.tmp 12) (.tmp 23) _ rfl E.base 80 i0 _ 6 72 Tryz.underlying73 b aa ab ad rfl (.slice V.pA L V.pc) L (r.aU.flatMap gW) rfl (qx.out.drew.alloc _) ⟨W1.heap.size,0,none⟩ 1 1 (gW ((n:Int),⟨C,a,z,x⟩)) rfl rfl (aav _ _ _ _ _ _ _ _ (by go_simp) (by go_simp) (by go_simp) (by go_simp) (by go_simp) (by go_simp)) (by simp[gW,Value.oneCell']) (by simp only[maxLen];omega) (by omega) (by simp;omega) ?_);intro v3 Q F B rF;obtain⟨A3,c3,a1,-,-⟩:=F.shape;subst a1;have af:=B.size;simp at af
 have q1:Q.cell? ⟨E.rp,6,none⟩=some (.slice V.pA L V.pc):=by
  rw[B.cell_far _ (by simp;omega) (fun N=>fw.out N.symm)];go_simp
 have q2:Q.cell? ⟨w.heap.size,1,none⟩=some (.string x):=by
  rw[B.cell_far _ (by simp;omega) (fun N=>yB.out N.symm)];go_simp
 have q3:Q.cell? ⟨w.heap.size,2,none⟩=some (.int .i64 a):=by
  rw[B.cell_far _ (by simp;omega) (fun N=>yB.out N.symm)];go_simp
 have q4:Q.cell? ⟨w.heap.size,3,none⟩=some (.int .i64 z):=by
  rw[B.cell_far _ (by simp;omega) (fun N=>yB.out N.symm)];go_simp
 have Y:=ah.grown (ah.alloc (ah.drew H1.out.blk) (.cells #[.int .i64 (n:Int),.int .i64 C,.int .i64 a,.int .i64 z,.string x,.slice none 0 0] 80)) B (fun N=>fw.out N.symm);have q5:=Y.frozen 6
 have HR:Hid (∃j,aQ E G q j (Q.setCell ⟨E.rp,6,none⟩ (.slice A3 (L+1) c3))/\KX E M w (Q.setCell ⟨E.rp,6,none⟩ (.slice A3 (L+1) c3))):=kH (by
  have zg:Below W1.heap.size W1 (W1.drew.alloc (.cells #[.int .i64 (n:Int),.int .i64 C,.int .i64 a,.int .i64 z,.string x,.slice none 0 0] 80)):=((Below.refl _ _).drew).alloc (ab9 _) _;have h2:=H1.out.below zg;have hp:=h2.pushP ((n:Int),⟨C,a,z,x⟩) (A3:=A3) (c3:=c3) (by rw[u.out];exact F) (by rw[u.out];exact B) M;rw[u.out]at hp;rw[l.out]
  exact⟨_,hp.1,(KX.of_below (X.out.trans (zg.mono X.out.size))).trans hp.2 (fun g hg=>.inl hg)⟩)
 clear Y F B rF;refine⟨fun _=>⟨q1,q2,q3,q4⟩,?_⟩;iterate 2(simp only[Act.put,sA,sZ,sC];refine eu (w':=Q) rfl (by go_simp;rfl) (fun _=>⟨q1,q2,q3,q4⟩) ?_)
 simp only[Act.put,sA,sZ,sC];refine gH (w':=Q.setCell ⟨E.rp,6,none⟩ (.slice A3 (L+1) c3)) rfl (by go_simp) (by simp) ?_;refine gp ?_;simp only[Act.put];go_wp2_with fail
 go_end0
 exact⟨rfl,HR.out⟩
end Go.Proofs.YtoepemlnlpamlaaGreat
