/- Collect agrees with the reference. Part 12: ShpA ShpB Typ3 HeldF Typ2 NumV Typ4 Typ5 ColR3 ColR4 ColR5. -/
import Derived.Test.YtoepemlnlpamlaaGreatColl11
set_option maxRecDepth 100000
set_option maxHeartbeats 4000000
namespace Go.Proofs.YtoepemlnlpamlaaGreat
open Go.RowKit
theorem x_lits(x:ByteArray):(x=⟨#[105,110,116]⟩/\ek x=true)\/(x=⟨#[98,111,111,108]⟩/\ek x=true)\/((x.toList==[105,110,116])=false/\(x.toList==[98,111,111,108])=false/\ek x=false):=by
 by_cases A:x=⟨#[105,110,116]⟩
 ·exact .inl ⟨A,by rw[A];decide⟩
 by_cases B:x=⟨#[98,111,111,108]⟩
 ·exact .inr (.inl ⟨B,by rw[B];decide⟩)
 refine .inr (.inr ⟨?_,?_,?_⟩)
 ·rw[beq_eq_false_iff_ne];exact fun h=>A (rJ (by rw[<- ByteArray.toList_eq,h]))
 ·rw[beq_eq_false_iff_ne];exact fun h=>B (rJ (by rw[<- ByteArray.toList_eq,h]))
 unfold ek;rw[decide_eq_false A,decide_eq_false B];rfl
theorem kq(k c:Int):k=c\/(k≠c/\(k==c)=false):=by
 by_cases h:k=c
 ·exact .inl h
 exact .inr ⟨h,by simpa using h⟩
theorem iq(i c:Nat)(C:Int)(B:(c:Int)=C):i=c\/(i≠c/\¬(i:Int)=C/\((i:Int)==C)=false):=by
 by_cases h:i=c
 ·exact .inl h
 have A:¬(i:Int)=C:=by omega
 exact .inr ⟨h,A,by simpa using A⟩
theorem jq(i c:Nat)(C:Int)(A:(c:Int)=C):(i<c/\(i:Int)<C)\/(¬i<c/\¬(i:Int)<C):=by omega
theorem bq(b:Bool):b=true\/b=false:=by cases b<;>simp
theorem kid_any(K:Int)(i:Nat)(hi:i<=1000000)(t:ae)(At:Option Addr)(ct:Nat)(w:World)(h0:0<=K)(Cm:K<=29)(h1:K≠1):
 Calls Tryz.prog 154 #[.int .i64 K,.int .i64 (i:Int),aO t At ct] w fun e w'=>e= .returned (.bool (jV K i t.kind t.text))/\Below w.heap.size w w':=by
 obtain⟨k,x,a,z,m,hk,hx,-,-,-,hv⟩:=aW t At ct;rw[hv,hk,hx];clear hv hk hx;obtain⟨T, hT⟩:=ag (bU k);obtain⟨X, hX⟩:=ag (aN k);obtain⟨L, hL⟩:=ag (iC k);obtain⟨S, hS⟩:=ag (kg k);have HT:=kH (fun W:World=>Zp k W);have HX:=kH (fun W:World=>Zr k W);have HL:=kH (fun W:World=>WW k W);have HS:=kH (fun W:World=>Zq k W);rw[hT]at HT;rw[hX]at HX;rw[hL]at HL;rw[hS]at HS;have HB:Hid (Below w.heap.size w (w.alloc (.cells #[.int .i64 k,.string x,.int .i64 a,.int .i64 z,.slice At m ct] 24))):=kH (ai _ _);have hc:K=0\/K=2\/K=3\/K=4\/K=5\/K=6\/K=7\/K=8\/K=9\/K=10\/K=11\/K=12\/K=13\/K=14\/K=15\/K=16\/K=17\/K=18\/K=19\/K=20\/K=21\/K=22\/K=23\/K=24\/K=25\/K=26\/K=27\/K=28\/K=29:=by omega
 clear h0 Cm h1;rcases hc with rfl|rfl|rfl|rfl|rfl|rfl|rfl|rfl|rfl|rfl|rfl|rfl|rfl|rfl|rfl|rfl|rfl|rfl|rfl|rfl|rfl|rfl|rfl|rfl|rfl|rfl|rfl|rfl|rfl
 obtain rfl|rfl:=bq X
 rotate_left
 rotate_left
 rcases kq k 3 with rfl| ⟨hk3,hb3⟩
 rotate_left
 rcases kq k 5 with rfl| ⟨hk5,hb5⟩
 rotate_left
 rotate_left
 rcases kq k 4 with rfl| ⟨hk4,hb4⟩
 rotate_left
 rotate_left
 rcases kq k 9 with rfl| ⟨vN,nZ⟩
 rcases x_lits x with⟨rfl,hs⟩| ⟨rfl,hs⟩| ⟨g1,g2,hs⟩
 rotate_left
 rotate_left
 rotate_left
 rotate_left
 rcases iq i 0 0 rfl with rfl| ⟨hi0,ha0,hc0⟩
 rcases kq k 6 with rfl| ⟨hk6,hb6⟩
 rotate_left
 rotate_left
 rcases iq i 1 1 rfl with rfl| ⟨hi1,ha1,hc1⟩
 obtain rfl|rfl:=bq T
 rotate_left
 rcases kq k 0 with rfl| ⟨hk0,hb0⟩
 rotate_left
 rotate_left
 rcases iq i 2 2 rfl with rfl| ⟨hi2,ha2,hc2⟩
 rcases kq k 11 with rfl| ⟨JU,CW⟩
 rotate_left
 rotate_left
 rotate_left
 rcases kq k 7 with rfl| ⟨hk7,jP⟩
 rotate_left
 rcases kq k 8 with rfl| ⟨hk8,lI⟩
 rotate_left
 rotate_left
 obtain rfl|rfl:=bq T
 rotate_left
 rcases kq k 0 with rfl| ⟨hk0,hb0⟩
 rotate_left
 rotate_left
 obtain rfl|rfl:=bq T
 rotate_left
 rcases kq k 0 with rfl| ⟨hk0,hb0⟩
 rotate_left
 rotate_left
 obtain rfl|rfl:=bq X
 rotate_left
 rotate_left
 obtain rfl|rfl:=bq X
 rotate_left
 rotate_left
 obtain rfl|rfl:=bq S
 rotate_left
 rotate_left
 rcases iq i 0 0 rfl with rfl| ⟨hi0,ha0,hc0⟩
 obtain rfl|rfl:=bq T
 rotate_left
 rcases kq k 0 with rfl| ⟨hk0,hb0⟩
 rotate_left
 rotate_left
 rcases iq i 1 1 rfl with rfl| ⟨hi1,ha1,hc1⟩
 obtain rfl|rfl:=bq X
 rotate_left
 rotate_left
 rotate_left
 rcases iq i 0 0 rfl with rfl| ⟨hi0,ha0,hc0⟩
 obtain rfl|rfl:=bq L
 rotate_left
 rotate_left
 rcases iq i 1 1 rfl with rfl| ⟨hi1,ha1,hc1⟩
 obtain rfl|rfl:=bq X
 rotate_left
 rotate_left
 rotate_left
 rcases iq i 0 0 rfl with rfl| ⟨hi0,ha0,hc0⟩
 obtain rfl|rfl:=bq X
 rotate_left
 rotate_left
 rcases iq i 1 1 rfl with rfl| ⟨hi1,ha1,hc1⟩
 rcases kq k 11 with rfl| ⟨JU,CW⟩
 rotate_left
 rotate_left
 rcases iq i 2 2 rfl with rfl| ⟨hi2,ha2,hc2⟩
 rcases kq k 11 with rfl| ⟨JU,CW⟩
 rotate_left
 rcases kq k 14 with rfl| ⟨hk14,gB⟩
 rotate_left
 rcases kq k 0 with rfl| ⟨hk0,hb0⟩
 rotate_left
 rotate_left
 rotate_left
 rcases iq i 0 0 rfl with rfl| ⟨hi0,ha0,hc0⟩
 obtain rfl|rfl:=bq X
 rotate_left
 rotate_left
 rcases iq i 1 1 rfl with rfl| ⟨hi1,ha1,hc1⟩
 rcases kq k 11 with rfl| ⟨JU,CW⟩
 rotate_left
 rotate_left
 rotate_left
 rcases jq i 2 2 rfl with⟨hj,hk⟩| ⟨hj,hk⟩
 obtain rfl|rfl:=bq X
 rotate_left
 rotate_left
 rcases iq i 2 2 rfl with rfl| ⟨hi2,ha2,hc2⟩
 rcases kq k 11 with rfl| ⟨JU,CW⟩
 rotate_left
 rotate_left
 rotate_left
 obtain rfl|rfl:=bq X
 rotate_left
 rcases kq k 0 with rfl| ⟨hk0,hb0⟩
 rotate_left
 rotate_left
 obtain rfl|rfl:=bq X
 rotate_left
 rotate_left
 obtain rfl|rfl:=bq X
 rotate_left
 rotate_left
 obtain rfl|rfl:=bq X
 rotate_left
 rotate_left
 rcases iq i 0 0 rfl with rfl| ⟨hi0,ha0,hc0⟩
 rcases kq k 20 with rfl| ⟨MV,hb20⟩
 rotate_left
 rotate_left
 rcases iq i 1 1 rfl with rfl| ⟨hi1,ha1,hc1⟩
 obtain rfl|rfl:=bq X
 rotate_left
 rotate_left
 rotate_left
 rcases kq k 20 with rfl| ⟨MV,hb20⟩
 rotate_left
 rotate_left
 rcases kq k 20 with rfl| ⟨MV,hb20⟩
 rotate_left
 rotate_left
 obtain rfl|rfl:=bq X
 rotate_left
 rotate_left
 obtain rfl|rfl:=bq X
 rotate_left
 rotate_left
 obtain rfl|rfl:=bq X
 rotate_left
 rotate_left
 obtain rfl|rfl:=bq X
 rotate_left
 rotate_left
 obtain rfl|rfl:=bq X
 rotate_left
 rotate_left
 obtain rfl|rfl:=bq X
 rotate_left
 rotate_left
 all_goals
  go_in
  go_wp2_with (first|(go_at_call 206;refine(HT.out _).mono ?_;rintro e w' ⟨rfl,rfl⟩)|(go_at_call 207;refine(HX.out _).mono ?_;rintro e w' ⟨rfl,rfl⟩)|(go_at_call 208;refine(HL.out _).mono ?_;rintro e w' ⟨rfl,rfl⟩)|(go_at_call 26;refine(HS.out _).mono ?_;rintro e w' ⟨rfl,rfl⟩))
  go_ret
  exact⟨by first|(simp[jV, *];done)|(simp[jV, *];omega),HB.out⟩
theorem abO(s:ByteArray)(w:World):Calls Tryz.prog 204 #[.string s] w fun e w'=>e= .returned (.bool (qA s.data.toList))/\Below w.heap.size w w':=by
 by_cases H:s.size<1
 ·have I:(s.size:Int)<1:=by omega
  have B:qA s.data.toList=false:=by unfold qA;rw[dN,decide_eq_false (p:=1<=s.size) (by omega)];rfl
  rw[B];clear H B;go_in
  go_wp2_with fail
  go_ret
  exact⟨rfl,Below.refl _ _⟩
 have I:¬(s.size:Int)<1:=by omega
 by_cases D:16<s.size
 ·have F:(16:Int)<(s.size:Int):=by omega
  have B:qA s.data.toList=false:=by unfold qA;rw[dN,decide_eq_false (p:=s.size<=16) (by omega)];simp
  rw[B];clear H B D;go_in
  go_wp2_with fail
  go_ret
  exact⟨rfl,Below.refl _ _⟩
 have F:¬(16:Int)<(s.size:Int):=by omega
 have E:0<s.size:=by omega
 have V:(0:Int)<(s.size:Int):=by omega
 obtain⟨G, C⟩:=ag (j6 (bz s.data.toList 0));obtain⟨N, A⟩:=ag (I6 s.data.toList);obtain⟨k,n,M⟩:∃k n,nI s.data.toList 0=(k,n):=⟨_,_,rfl⟩
 have B:qA s.data.toList=(G&& !N&&decide (n=s.size)):=by
  unfold qA;rw[dN,C,A,M,decide_eq_true (p:=1<=s.size) (by omega),decide_eq_true (p:=s.size<=16) (by omega)];cases G<;>simp
 rw[B];have L:=kJ (s[0]'E).toNat;rw[oQ s 0 E,C,<- oQ s 0 E]at L;have K:=Jo s;rw[A]at K
 have O:∀W,Calls Tryz.prog 180 #[.string s,.int .i64 0] W fun e w'=>e= .returned (.tuple #[.int .i64 (k:Int),.int .i64 (n:Int)])/\Below W.heap.size W w':=fun W=>by
  have:=Xz s 0 W E (by omega);rw[M]at this;exact this
 have T:=kH L;have R:=kH K;have U:=kH O;clear B C A M L K O D H;go_in
 go_wp2_with fail
 refine(T.out w).mono ?_;rintro e w' ⟨rfl,rfl⟩;cases G
 ·go_wp2_with fail
  go_ret
  exact⟨rfl,Below.refl _ _⟩
 go_wp2_with fail
 refine(R.out w).mono ?_;rintro e X ⟨rfl,J⟩;cases N
 case true=>
  go_wp2_with fail
  go_ret
  exact⟨rfl,J⟩
 go_wp2_with fail
 refine(U.out X).mono ?_;rintro e Y ⟨rfl,A⟩;go_wp2_with fail
 go_ret
 refine⟨bE ?_,J.trans (A.mono J.size)⟩;rw[Bool.eq_iff_iff];simp;omega
theorem Fj(s:ByteArray)(w:World):Calls Tryz.prog 132 #[.string s] w fun e w'=>e= .returned (.tuple #[.int .i64 (((dE s.data.toList).getD 0:Nat):Int),.bool (dE s.data.toList).isSome])/\w=w':=by
 by_cases C:9<s.size
 ·have B:¬(s.size:Int)<1:=by omega
  have D:(9:Int)<s.size:=by omega
  have A:dE s.data.toList=none:=by unfold dE;rw[dN,if_pos (.inr C)]
  rw[A];clear A;go_in
  go_wp2_with fail
  go_ret2
  exact⟨rfl,rfl⟩
 exact WY s w (by omega)
theorem Ve(s:ByteArray)(w:World):Calls Tryz.prog 205 #[.string s] w fun e w'=>e= .returned (.bool (iL s))/\w=w':=by
 have H:=Fj s w;obtain⟨m, J⟩:=ag ((dE s.data.toList).getD 0);obtain⟨I, A⟩:=ag ((dE s.data.toList).isSome);rw[A,J]at H
 have F:I=true->0<s.size:=by
  intro h;rw[h]at A;unfold dE at A;split at A
  ·cases A
  rename_i h2
  rw[dN]at h2;omega
 have G:=kH H;have D:=kH A;have M:=kH F;clear H A F J;cases I
 ·have C:iL s=false:=by unfold iL;rw[D.out];rfl
  rw[C];clear C;go_in
  go_wp2_with fail
  refine G.out.mono ?_;rintro e L ⟨rfl,rfl⟩;go_wp2_with fail
  go_ret
  exact⟨rfl,rfl⟩
 have F:=M.out rfl;have O:(0:Int)<(s.size:Int):=by omega
 by_cases B:s=⟨#[48]⟩
 ·subst B
  have C:iL ⟨#[48]⟩=true:=by decide
  rw[C];clear C;go_in
  go_wp2_with fail
  refine G.out.mono ?_;rintro e L ⟨rfl,rfl⟩;go_wp2_with fail
  go_ret
  exact⟨rfl,rfl⟩
 have N:(s.data.toList==[48])=false:=by
  rw[Bool.eq_false_iff];intro h;apply B
  obtain⟨⟨l⟩⟩:=s;simp at h;rw[h]
 have K:(s.toList==[48])=false:=by rw[ByteArray.toList_eq];exact N
 have C:iL s=decide (bz s.data.toList 0≠48):=by unfold iL;rw[D.out,decide_eq_false B];simp
 rw[C];have E:=oQ s 0 F;rw[<- E];clear C B E;go_in
 go_wp2_with fail
 refine G.out.mono ?_;rintro e L ⟨rfl,rfl⟩;go_wp2_with fail
 go_ret
 exact⟨bE (by rw[Bool.eq_iff_iff];simp;omega),rfl⟩
theorem U7(A:Option Addr)(n c:Nat)(U:List ByteArray)(x:ByteArray)(w:World)(h:jI w w.heap.size A n U):
 Calls Tryz.prog 252 #[.slice A n c,.string x] w fun e w'=>(∃i:Int,e= .returned (.int .i64 i)/\decide (0<=i)=fH U x)/\w=w':=by
 obtain⟨l,M,O,rfl,m⟩:=h;have W:=kH M;have I:=kH O;clear M O;go_in
 go_wp2_with fail
 go_loopg [5] n (fun gk s wr=> ∃k:Nat,k+gk=n/\s= .int .i64 k/\w=wr/\fH ((l.map (·.1)).take k) x=false)
 case atStart=>exact⟨0,by omega,rfl,rfl,rfl⟩
 obtain⟨k,N,rfl,rfl,T⟩:=hrel;have J:=kH N;have K:=kH T;have z:k<=n:=by omega
 clear N T;by_cases E:k<n
 ·have C:l[k]? =some (l[k]'(by rw[I.out];exact E)):=ace _
  generalize l[k]'(by rw[I.out];exact E)=y at C
  obtain⟨Y,r,H,Z,D⟩:=W.out k _ C;subst H;obtain⟨y,g,d,f⟩:=y;have j:w.cell? ⟨Y,r+k*2,none⟩=some (.string y):=by simpa using D 0 _ rfl
  have v:(k:Int)<(n:Int):=by omega
  have u:IntKind.i64.wrap ((k:Int)+1)=(k:Int)+1:=IntWalk.i64_in _ (by omega)
  have F:fH ((l.map (·.1)).take (k+1)) x=(y.toList==x.toList):=by
   have L:=K.out;unfold fH at L⊢;rw[List.take_add_one,List.getElem?_map,C,List.any_append,L];simp
  have V:=kH C;have t:=kH F;obtain⟨q, R⟩:=ag ((y.toList==x.toList));have X:=kH R;clear D C F;cases q
  ·go_wp2_with fail
   go_roundg (gk - 1)
   case measure=>have:=J.out;omega
   exact⟨k+1,by have:=J.out;omega,by simp,rfl,by rw[t.out];exact X.out⟩
  have B:fH (l.map (·.1)) x=true:=by
   unfold fH;rw[List.any_eq_true];exact⟨y,List.mem_map.2 ⟨_,acn V.out,rfl⟩,R⟩
  have G:=kH B;clear B;go_wp2_with fail
  go_ret
  exact⟨⟨(k:Int),rfl,by rw[G.out];simp⟩,rfl⟩
 have B:fH (l.map (·.1)) x=false:=by
  have h:=K.out;rw[List.take_of_length_le (by rw[List.length_map,I.out];omega)]at h;exact h
 have G:=kH B;clear B;go_wp2_with fail
 go_ret
 exact⟨⟨-1,rfl,by rw[G.out];rfl⟩,rfl⟩
theorem SH(k l:Int)(r:ByteArray)(A:Option Addr)(n c:Nat)(D:List ByteArray)(w:World)(h:jI w w.heap.size A n D):
 Calls Tryz.prog 225 #[.agg #[.int .i64 k,.int .i64 l,.string r],.slice A n c] w fun e w'=>e= .returned (.bool (lN D (k,l,r)))/\Below w.heap.size w w':=by
 have C:=ai w (.cells #[.int .i64 k,.int .i64 l,.string r] 108);have E:=kH C;have F:=kH (U7 A n c D r _ ((h.below C (ab9 _)).mono C.size));obtain⟨I,vv,U,H,K⟩:=Gh D k l r;rw[H]at F;clear C h H;rcases K with⟨rfl|rfl,⟨rfl,B⟩| ⟨T,B⟩⟩| ⟨rfl,⟨G,J,B⟩| ⟨G,B⟩| ⟨G,J,B⟩⟩| ⟨rfl,⟨rfl,B⟩| ⟨T,B⟩⟩| ⟨M,N,O,R,B⟩
 all_goals
  rw[B];clear B;try (cases I)
 all_goals
  go_in
  go_wp2_with fail
  first
   | (go_ret;exact⟨bE (by first|rfl|simp[*]),E.out⟩)
   | (refine F.out.mono ?_
      rintro e V ⟨⟨i,rfl,L⟩,rfl⟩;go_wp2_with fail
      go_ret
      exact⟨bE (by rw[<- L]),E.out⟩)
inductive zo where
 | done
 | soft (k:Nat) (t:zo)
 | hard (k:Nat) (t:zo)
 | fork (i:Nat) (s:zo) (j:Nat) (t:zo)
def zo.len:zo->Nat
 | .done=>0
 | .soft _ t=>t.len+1
 | .hard _ t=>t.len+1
 | .fork _ s _ _=>s.len+1
section
variable {P:Program}{ops:Array Oper}{Q:Exit->Act->World->Prop}{md:Region.Mode}{S:World->Prop}{ex:List Nat}
def uC(P:Program)(ops:Array Oper)(Q:Exit->Act->World->Prop)(S:World->Prop)(ex:List Nat):zo->Act->World->Prop
 | .done,a,w=>Q .normal a w
 | .soft k t,a,w=> ∃o,ops[k]? =some o/\∃v,YieldsIf P ops S o v a/\S w/\uC P ops Q S ex t (a.put o.dst v) w
 | .hard k t,a,w=> ∃o,ops[k]? =some o/\Region.wanted o (yielded ops a.tmps)=true/\o.wp P a w (fun a' w'=>(ex.contains k=false->S w')/\uC P ops Q S ex t a' w') Q
 | .fork i s j t,a,w=>(∃o,ops[i]? =some o/\Region.wanted o (yielded ops a.tmps)=true/\o.wp P a w (fun a' w'=>(ex.contains i=false->S w')/\uC P ops Q S ex s a' w') Q) /\
  (∃o,ops[j]? =some o/\Region.wanted o (yielded ops a.tmps)=true/\o.wp P a w (fun a' w'=>(ex.contains j=false->S w')/\uC P ops Q S ex t a' w') Q)
def yN(md:Region.Mode)(ops:Array Oper)(ex:List Nat):zo->Array Bool->Bool
 | .done,listed=>(Region.ready md ops listed).isEmpty
 | .soft k t,listed=>Region.free md ops listed k&&(Region.ready md ops listed).contains k&&ex.all (fun j=>Region.waitsFor md ops j k)&&yN md ops ex t (listed.setIfInBounds k true)
 | .hard k t,listed=>(Region.ready md ops listed==[k])&&yN md ops ex t (listed.setIfInBounds k true)
 | .fork i s j t,listed=>(Region.ready md ops listed==[i,j])&&(s.len==t.len)&&yN md ops ex s (listed.setIfInBounds i true)&&yN md ops ex t (listed.setIfInBounds j true)
theorem Ph(Y:Region.noSelect ops=true)(V:∀c a b w,Q (.panic c) a w->Q (.panic c) b w):∀(t:zo) (A:Array Bool) (a:Act) (w:World),
 yN md ops ex t A=true->uC P ops Q S ex t a w->yS P md ops Q S ex t.len A a w:=by
 intro t
 induction t with
 | done=>
  intro A a w C h;exact⟨by simpa [yN] using C,by simpa [uC] using h⟩
 | soft k t ih=>
  intro A a w C h;simp only[yN,acb]at C;obtain⟨⟨⟨D,H⟩,M⟩,U⟩:=C;obtain⟨o,B,v,Z,W,I⟩:=h;refine wu B (Region.noSelect_spec Y) (fun j X=>?_) (fun c a w L=>V c _ _ w L) t.len A a w (Region.free_spec B D) (by simpa using H) Z W (ih _ _ w U I);exact List.all_eq_true.1 M j X
 | hard k t ih=>
  intro A a w C h;simp only[yN,acb,beq_iff_eq]at C;obtain⟨D,H⟩:=C;obtain⟨o,B,O,I⟩:=h;refine⟨fun G=>(by rw[G]at D;cases D),fun i T=>?_⟩;rw[D]at T;simp at T;subst T;unfold wpOp;simp only[B,O,if_true];refine .inl (Oper.wp_mono (fun F w' E=>⟨fun J=>E.1 (by simpa using J),ih (A.setIfInBounds i true) F w' H E.2⟩) I)
 | fork i s j t ihs iht=>
  intro A a w C h;simp only[yN,acb,beq_iff_eq]at C;obtain⟨⟨⟨D,G⟩,H⟩,M⟩:=C;obtain⟨⟨o,B,O,I⟩,⟨z,K,R,N⟩⟩:=h;refine⟨fun G=>(by rw[G]at D;cases D),fun q L=>?_⟩;rw[D]at L;simp at L;rcases L with rfl|rfl
  ·unfold wpOp
   simp only[B,O,if_true];exact .inl (Oper.wp_mono (fun F w' E=>⟨fun J=>E.1 (by simpa using J),ihs (A.setIfInBounds q true) F w' H E.2⟩) I)
  unfold wpOp;simp only[K,R,if_true];refine .inl (Oper.wp_mono (fun F w' E=>⟨fun J=>E.1 (by simpa using J),?_⟩) N);have:=iht (A.setIfInBounds q true) F w' M E.2;rw[G];exact this
theorem mO{F:Nat}{a:Act}{w:World}{l:List Oper}(S:World->Prop)(ex:List Nat)(t:zo)(C:P.follows .mixedOrders=true)(E:Region.noSelect l.toArray=true)
 (B:t.len=l.length) (A:yN .any l.toArray ex t (Array.replicate l.length false)=true) (h:uC P l.toArray (NoPanic Q) S ex t a w.drew):(Code.region F l.toArray true).wp P Q a w:=by
 refine wp_region_noPanic (wp_region_any C (vZ (S:=S) (ex:=ex) _ _ _ _ ?_));have:=Ph (P:=P) (S:=S) (md:=.any) E (Q:=NoPanic Q) (fun c a b w D=>(D:False).elim) t (Array.replicate l.length false) a w.drew A h;simpa [B] using this
theorem kR{a:Act}{w:World}(h:Q .normal a w):uC P ops (NoPanic Q) S ex .done a w:=h
theorem dX{k:Nat}{t:zo}{o:Oper}{a:Act}{w:World}{v:Value}(C:ops[k]? =some o)(B:Region.wanted o (yielded ops a.tmps)=true)(A:S w)(D:∀w',S w'->(execOp a.eval o).run P w'= .ok (.value v) w')
 (h:uC P ops Q S ex t (a.put o.dst v) w):uC P ops Q S ex (.soft k t) a w:=
 ⟨o,C,v,.inl ⟨B,D⟩,A,h⟩
def Ip(P:Program)(ops:Array Oper)(Q:Exit->Act->World->Prop)(S:World->Prop)(ex:List Nat)(k:Nat)(t:zo)(a:Act)(w:World):Prop:=
 ∃o,ops[k]? =some o/\Region.wanted o (yielded ops a.tmps)=true/\o.wp P a w (fun a' w'=>(ex.contains k=false->S w')/\uC P ops Q S ex t a' w') Q
theorem gY{k:Nat}{t:zo}{o:Oper}{a:Act}{w w':World}{v:Value}(C:ops[k]? =some o)(B:Region.wanted o (yielded ops a.tmps)=true)(D:(execOp a.eval o).run P w= .ok (.value v) w')(A:ex.contains k=false->S w')
 (h:uC P ops Q S ex t (a.put o.dst v) w'):Ip P ops Q S ex k t a w:=
 ⟨o,C,B,by unfold Oper.wp;rw[D];exact⟨A,h⟩⟩
theorem je{k:Nat}{t:zo}{o:Oper}{a:Act}{w w':World}(C:ops[k]? =some o)(B:Region.wanted o (yielded ops a.tmps)=true)(D:(execOp a.eval o).run P w= .ok .skip w')(A:ex.contains k=false->S w')
 (h:uC P ops Q S ex t (a.put o.dst undef) w'):Ip P ops Q S ex k t a w:=
 ⟨o,C,B,by unfold Oper.wp;rw[D];exact⟨A,h⟩⟩
theorem ig{k:Nat}{t:zo}{o:Oper}{a:Act}{w:World}{f:FuncId}{args:Array Value}(E:ops[k]? =some o)(D:Region.wanted o (yielded ops a.tmps)=true)
 (F:(execOp a.eval o).run P w= .ok (.enter f args) w) (h:Calls P f args w fun e w'=> ∃v,e= .returned v/\(ex.contains k=false->S w')/\uC P ops Q S ex t (a.put o.dst v) w'):Ip P ops Q S ex k t a w:=
 ⟨o,E,D,by unfold Oper.wp;rw[F];exact h.mono (fun e w' ⟨v,C,A,B⟩=>by subst C;exact⟨A,B⟩)⟩
theorem cB{k:Nat}{t:zo}{a:Act}{w:World}(h:Ip P ops Q S ex k t a w):uC P ops Q S ex (.hard k t) a w:=h
theorem sN{i j:Nat}{s t:zo}{a:Act}{w:World}(h:Ip P ops Q S ex i s a w)(k:Ip P ops Q S ex j t a w):uC P ops Q S ex (.fork i s j t) a w:=⟨h,k⟩
end
def vv(p:Nat×Nat):Value:=.agg #[.func (Fn.func p.1) #[] #[],.func (Fn.func p.2) #[] #[]]
def Mv:List (Int×Value):=[(1,vv (243,244)),(2,vv (243,244)),(3,vv (245,246)),(4,vv (248,250))]
def II(k:Int):Option (Nat×Nat):=if k=1\/k=2 then some (243,244) else if k=3 then some (245,246) else if k=4 then some (248,250) else none
theorem X8(k:Int):mM Mv k=(II k).map vv:=by
 by_cases C:k=1
 ·subst C;rfl
 by_cases D:k=2
 ·subst D;rfl
 by_cases A:k=3
 ·subst A;rfl
 by_cases B:k=4
 ·subst B;rfl
 unfold II;rw[if_neg (by omega),if_neg A,if_neg B];simp[mM,Mv,mq,C,D,A,B]
theorem IK(w:World):Calls Tryz.prog 224 #[] w fun e w'=>e= .returned (.map (some w.heap.size))/\aY iU w' w.heap.size Mv/\Below w.heap.size w w':=by
 have E:=@run_makeMap Tryz.prog;have C:aY iU (w.alloc (.map #[] 0)) w.heap.size []:=aY.made w;have D:Below w.heap.size w (w.alloc (.map #[] 0)):=ai _ _;go_in
 go_wp2_with (refine uW (KK:=iU) _ rfl _ _ _ 259 rfl 3 257 Tryz.underlying259 Tryz.underlying3 w.heap.size _ _ _ rfl rfl rfl (by assumption) (by assumption) (ab9 _) ?_;intro F B A)
 refine bodyPost_ret (v:=.map (some w.heap.size)) (by simp[results,Tryz.results224,go_sem]) rfl ?_;refine⟨rfl,Eq.mp (congrArg (aY iU F _) ?_) B,A⟩;kernel_rfl
theorem ZQ(w:World):(zeroValue 257).run Tryz.prog w= .ok (.agg #[.nilFunc,.nilFunc]) w:=by go_simp
theorem vfn_any(k l:Int)(r:ByteArray)(I R:Nat)(F:II k=some (I,R))(A:Option Addr)(n c:Nat)(O:List ByteArray)(w:World)(h:jI w w.heap.size A n O):
 Calls Tryz.prog I #[.agg #[.int .i64 k,.int .i64 l,.string r],.slice A n c] w fun e w'=>e= .returned (.bool (lN O (k,l,r)))/\Below w.heap.size w w':=by
 obtain⟨M, C⟩:=ag (w.alloc (.cells #[.int .i64 k,.int .i64 l,.string r] 108));have N:Below w.heap.size w M:=by rw[<- C];exact ai _ _
 have B:ah M w.heap.size 108 #[.int .i64 k,.int .i64 l,.string r]:=by rw[<- C];exact ah.new _ _ _
 have V:Hid (∀W,Below M.heap.size M W->W.cell? ⟨w.heap.size,1,none⟩=some (.int .i64 l)/\w.heap.size<W.heap.size):=kH fun W U=>⟨(B.below U B.lt).cell 1,(B.below U B.lt).lt⟩
 have X:=B.cell 0;have Y:=B.cell 1;have Z:=B.cell 2;have lc:=B.lt;have K:=kH N;have L:=kH (SF A n c O r _ ((h.below N (ab9 _)).mono N.size));obtain⟨g,b,f,J,y⟩:=Gh O k l r;rw[J]at L;clear N h J B;rcases y with⟨rfl|rfl,⟨rfl,E⟩| ⟨q,E⟩⟩| ⟨rfl,⟨T,z,E⟩| ⟨T,E⟩| ⟨T,z,E⟩⟩| ⟨rfl,⟨rfl,E⟩| ⟨q,E⟩⟩| ⟨x,v,u,t,E⟩
 all_goals
  rw[E];clear E
  first
   | (have D:some (243,244)=some (I,R):=F
      cases D
      clear F L;go_in
      go_wp2_with (rw[C])
      go_ret
      exact⟨bE (by first|rfl|simp[*]),K.out⟩)
   | (have D:some (245,246)=some (I,R):=F
      cases D
      clear F L;go_in
      go_wp2_with (rw[C])
      go_ret
      exact⟨bE (by first|rfl|simp[*]),K.out⟩)
   | (have D:some (248,250)=some (I,R):=F
      cases D
      clear F;go_in
      go_wp2_with (rw[C])
      refine L.out.mono ?_;rintro e m ⟨⟨s,j,d,ds,rfl⟩,G⟩;obtain⟨x1,x2⟩:=V.out m G;have H:=kH (K.out.trans (G.mono K.out.size));clear G X Y Z lc C;go_wp2_with fail
      go_ret
      exact⟨bE (by first|rfl|simp[*]),H.out.alloc H.out.size _⟩)
   | (exfalso
      unfold II at F;rw[if_neg (by omega),if_neg (by omega),if_neg (by omega)]at F
      cases F)
theorem UU(k l:Int)(r:ByteArray)(A:Option Addr)(n c:Nat)(nm:List ByteArray)(w:World)(h:jI w w.heap.size A n nm):
 Calls Tryz.prog 173 #[.agg #[.int .i64 k,.int .i64 l,.string r],.slice A n c] w fun e w'=>e= .returned (.bool (lN nm (k,l,r)))/\Below w.heap.size w w':=by
 obtain⟨B, V⟩:=ag (w.alloc (.cells #[.int .i64 k,.int .i64 l,.string r] 108));have a6:Below w.heap.size w B:=by rw[<- V];exact ai _ _
 have F:ah B w.heap.size 108 #[.int .i64 k,.int .i64 l,.string r]:=by rw[<- V];exact ah.new _ _ _
 have Z:∀W r,aY iU W r Mv->(Instr.lookup 259 (.map (some r)) (.int .i64 k) true).run Tryz.prog W= .ok (.tuple #[(mM Mv k).getD (.agg #[.nilFunc,.nilFunc]),.bool (mM Mv k).isSome]) W:=fun W r hm=>wG (P:=Tryz.prog) (KK:=iU) (t:=259) (kt:=3) (et:=257) Tryz.underlying259 Tryz.underlying3 ZQ hm k
 rw[X8]at Z
 obtain⟨H,I,ok,u⟩:∃H I ok,((II k).map vv).getD (.agg #[.nilFunc,.nilFunc])= .agg #[H,I]/\((II k).map vv).isSome=ok/\((ok=false/\H= .nilFunc/\I= .nilFunc/\lN nm (k,l,r)=false)\/(ok=true/\∃z f,II k=some (z,f)/\H= .func (Fn.func z) #[] #[]/\I= .func (Fn.func f) #[] #[])):=by
  cases J:II k with
  | none=>
   refine⟨_,_,_,rfl,rfl,.inl ⟨rfl,rfl,rfl,?_⟩⟩;unfold II at J;unfold lN;split at J
   ·cases J
   split at J
   ·cases J
   split at J
   ·cases J
   rename_i a b c
   rw[if_neg a,if_neg b,if_neg c]
  | some p=>exact⟨_,_,_,rfl,rfl,.inr ⟨rfl,p.1,p.2,rfl,rfl,rfl⟩⟩
 obtain⟨e1,e2,u⟩:=u;rw[e1,e2]at Z;have rW:=kH Z;have a1:=kH a6;have ar:=kH F;have HR:=kH h;have a7:∀X g,ah X g 257 #[.nilFunc,.nilFunc]->B.heap.size<=g->Below B.heap.size B X->ah ((X.setCell ⟨g,0,none⟩ H).setCell ⟨g,1,none⟩ I) g 257 #[H,I]/\B.heap.size<=g/\Below B.heap.size B ((X.setCell ⟨g,0,none⟩ H).setCell ⟨g,1,none⟩ I):=fun X g Y hg j=>⟨by simpa using(Y.dB 0 H).dB 1 I,hg,(j.setCell hg _).setCell hg _⟩
 have aa:=kH a7;have fE:∀W,Below B.heap.size B W->W.cell? ⟨w.heap.size,0,none⟩=some (.int .i64 k)/\W.cell? ⟨w.heap.size,1,none⟩=some (.int .i64 l)/\W.cell? ⟨w.heap.size,2,none⟩=some (.string r)/\w.heap.size<W.heap.size:=fun W j=>⟨(F.below j F.lt).cell 0,(F.below j F.lt).cell 1,(F.below j F.lt).cell 2,(F.below j F.lt).lt⟩
 have x:=kH fE;obtain⟨vt, QD⟩:=ag (lN nm (k,l,r));rw[QD]at u⊢;have ab:=kH u;have ad:=kH QD
 have al:∀(W:World) (a:Addr) (m:Mode),(store a H m).run Tryz.prog W=stored Tryz.prog W a H m:=fun W a m=>by
  rcases u with⟨-,rfl,-,-⟩| ⟨-,z,f,-,rfl,-⟩ <;>exact run_store _ _ _ _ _ rfl
 have an:∀(W:World) (a:Addr) (m:Mode),(store a I m).run Tryz.prog W=stored Tryz.prog W a I m:=fun W a m=>by
  rcases u with⟨-,-,rfl,-⟩| ⟨-,z,f,-,-,rfl⟩ <;>exact run_store _ _ _ _ _ rfl
 clear Z a6 F fE e1 e2 h a7;clear u QD;go_in
 go_wp2_with (rw[V])
 clear V;go_cut [5,6] (fun s5 s6 wx=> ∃g,s5= .pointer (some ⟨g,0,none⟩)/\s6= .bool ok/\Hid (ah wx g 257 #[H,I]/\B.heap.size<=g/\Below B.heap.size B wx))
 case first=>
  have y:Below B.heap.size B B.drew:=(Below.refl _ _).drew;obtain⟨T,-⟩:=x.out _ y;refine mO (fun W=>W.cell? ⟨w.heap.size,0,none⟩=some (.int .i64 k)) [] (.soft 1 (.soft 2 (.fork 0 (.fork 3 (.soft 4 (.soft 5 (.soft 6 (.hard 7 (.hard 8 (.soft 9 .done)))))) 7 (.hard 3 (.soft 4 (.soft 5 (.soft 6 (.hard 8 (.soft 9 .done))))))) 7 (.hard 0 (.hard 3 (.soft 4 (.soft 5 (.soft 6 (.hard 8 (.soft 9 .done)))))))))) (by kernel_rfl) (by kernel_rfl) rfl (by kernel_rfl) ?_
  iterate 2
   refine dX (by simp only[acj,aci,ach];rfl) (by rfl) T (by intro w' C;obtain M:=C;go_simp;rfl) ?_;simp only[Act.put,sA,sZ,sC]
  refine sN ?_ ?_
  ·refine ig (by simp only[acj,aci,ach];rfl) (by rfl) (by go_simp) ((IK _).mono ?_)
   rintro e2 D ⟨rfl,K,G⟩;have O:Below B.heap.size B D:=y.trans (G.mono y.size);obtain⟨E,-⟩:=x.out _ O;have N:=rW.out D B.heap.size K;refine⟨_,rfl,fun _=>E,?_⟩;simp only[Act.put,sA,sZ,sC];have R:∀q,Below B.heap.size B (D.alloc (.cells q 257)):=fun q=>O.alloc O.size _
   have L:∀q,(D.alloc (.cells q 257)).cell? ⟨w.heap.size,0,none⟩=some (.int .i64 k):=fun q=>(x.out _ (R q)).1
   have U:=L #[H,I];have DX:=L #[.nilFunc,.nilFunc];have HE:Hid (ah (D.alloc (.cells #[H,I] 257)) D.heap.size 257 #[H,I]/\B.heap.size<=D.heap.size/\Below B.heap.size B (D.alloc (.cells #[H,I] 257))):=kH ⟨ah.new _ _ _,O.size,R _⟩;refine sN ?_ ?_
   ·refine gY (w':=D) (by simp only[acj,aci,ach];rfl) (by rfl) (by go_simp;rfl) (fun _=>E) ?_
    simp only[Act.put,sA,sZ,sC]
    iterate 3
     refine dX (by simp only[acj,aci,ach];rfl) (by rfl) E (by intro w' C;obtain M:=C;go_simp;rfl) ?_;simp only[Act.put,sA,sZ,sC]
    refine cB (gY (w':=D.alloc (.cells #[.nilFunc,.nilFunc] 257)) (by simp only[acj,aci,ach];rfl) (by rfl) (by go_simp;rfl) (fun _=>L _) ?_);simp only[Act.put,sA,sZ,sC];refine cB (je (w':=D.alloc (.cells #[H,I] 257)) (by simp only[acj,aci,ach];rfl) (by rfl) (by go_simp) (fun _=>L _) ?_);simp only[Act.put,sA,sZ,sC]
    iterate 1
     refine dX (by simp only[acj,aci,ach];rfl) (by rfl) U (by intro w' C;obtain M:=C;go_simp;rfl) ?_;simp only[Act.put,sA,sZ,sC]
    refine kR ?_;clear T y K G O E N R L U DX;go_wp2_with fail
    go_meet
    exact⟨_,rfl,rfl,HE⟩
   have ao:=rW.out (D.alloc (.cells #[.nilFunc,.nilFunc] 257)) B.heap.size (K.alloc _);refine gY (w':=D.alloc (.cells #[.nilFunc,.nilFunc] 257)) (by simp only[acj,aci,ach];rfl) (by rfl) (by go_simp;rfl) (fun _=>L _) ?_;simp only[Act.put,sA,sZ,sC];refine cB (gY (w':=D.alloc (.cells #[.nilFunc,.nilFunc] 257)) (by simp only[acj,aci,ach];rfl) (by rfl) (by go_simp;rfl) (fun _=>L _) ?_);simp only[Act.put,sA,sZ,sC]
   iterate 3
    refine dX (by simp only[acj,aci,ach];rfl) (by rfl) DX (by intro w' C;obtain M:=C;go_simp;rfl) ?_;simp only[Act.put,sA,sZ,sC]
   refine cB (je (w':=D.alloc (.cells #[H,I] 257)) (by simp only[acj,aci,ach];rfl) (by rfl) (by go_simp) (fun _=>L _) ?_);simp only[Act.put,sA,sZ,sC]
   iterate 1
    refine dX (by simp only[acj,aci,ach];rfl) (by rfl) U (by intro w' C;obtain M:=C;go_simp;rfl) ?_;simp only[Act.put,sA,sZ,sC]
   refine kR ?_;clear T y K G O E N R L ao U DX;go_wp2_with fail
   go_meet
   exact⟨_,rfl,rfl,HE⟩
  have O:Below B.heap.size B (B.drew.alloc (.cells #[.nilFunc,.nilFunc] 257)):=y.alloc y.size _;refine gY (w':=B.drew.alloc (.cells #[.nilFunc,.nilFunc] 257)) (by simp only[acj,aci,ach];rfl) (by rfl) (by go_simp;rfl) (fun _=>(x.out _ O).1) ?_;simp only[Act.put,sA,sZ,sC];refine cB (ig (by simp only[acj,aci,ach];rfl) (by rfl) (by go_simp) ((IK _).mono ?_));rintro e2 D ⟨rfl,K,G⟩;have Y:ah D B.heap.size 257 #[.nilFunc,.nilFunc]:=(ah.new B.drew 257 #[.nilFunc,.nilFunc]).below G (by simp);have vB:Below B.heap.size B D:=O.trans (G.mono O.size);obtain⟨E,-⟩:=x.out _ vB;have N:=rW.out D _ K;have aq:(B.drew.alloc (.cells #[.nilFunc,.nilFunc] 257)).heap.size=B.heap.size+1:=by simp
  rw[aq]at N;have HE:=kH (aa.out D _ Y (ab9 _) vB);obtain⟨L,-⟩:=x.out _ HE.out.2.2;have x0:=Y.frozen 0;have x1:=Y.frozen 1;have x2:=Y.lt;have x3:=Y.cell 0;have x4:=Y.cell 1;refine⟨_,rfl,fun _=>E,?_⟩;simp only[Act.put,sA,sZ,sC];refine cB (gY (w':=D) (by simp only[acj,aci,ach];rfl) (by rfl) (by go_simp;rfl) (fun _=>E) ?_);simp only[Act.put,sA,sZ,sC]
  iterate 3
   refine dX (by simp only[acj,aci,ach];rfl) (by rfl) E (by intro w' C;obtain M:=C;go_simp;rfl) ?_;simp only[Act.put,sA,sZ,sC]
  refine cB (je (w':=(D.setCell ⟨B.heap.size,0,none⟩ H).setCell ⟨B.heap.size,1,none⟩ I) (by simp only[acj,aci,ach];rfl) (by rfl) (by go_simp) (fun _=>L) ?_);simp only[Act.put,sA,sZ,sC]
  iterate 1
   refine dX (by simp only[acj,aci,ach];rfl) (by rfl) L (by intro w' C;obtain M:=C;go_simp;rfl) ?_;simp only[Act.put,sA,sZ,sC]
  refine kR ?_;clear T y K G O E N L Y x0 x1 x2 x3 x4 vB;go_wp2_with fail
  go_meet
  exact⟨_,rfl,rfl,HE⟩
 obtain⟨g,rfl,rfl,HC⟩:=hcut;obtain⟨wo,rfl⟩:∃W:World,W=wc:=⟨_,rfl⟩
 obtain⟨k0,k1,k2,kl⟩:=x.out wo HC.out.2.2;have d0:=HC.out.1.cell 0;have dl:=HC.out.1.lt;have d:=kH (a1.out.trans (HC.out.2.2.mono a1.out.size));clear al an;rcases ab.out with⟨rfl,rfl,rfl,hr⟩| ⟨rfl,z,f,J,rfl,rfl⟩
 ·subst hr
  go_wp2_with fail
  go_ret
  exact⟨rfl,d.out⟩
 have af:∀(args:Array Value) (w:World),(callFunc z args).run Tryz.prog w= .ok (.enter z args) w:=by
  unfold II at J;split at J
  ·cases J;exact fun args w=>by go_simp
  split at J
  ·cases J;exact fun args w=>by go_simp
  split at J
  ·cases J;exact fun args w=>by go_simp
  cases J
 have v:=vfn_any k l r z f J A n c nm wo ((HR.out.below d.out (ab9 _)).mono d.out.size);rw[ad.out]at v;have tN:=kH v;clear J v;go_wp2_with fail
 refine tN.out.mono ?_;rintro e D ⟨rfl,G⟩;have a8:=kH (d.out.trans (G.mono d.out.size));clear G;go_wp2_with fail
 go_ret
 exact⟨rfl,a8.out⟩
theorem Gz(s:ByteArray)(w:World):Calls Tryz.prog 172 #[.string s] w fun e w'=>e= .returned (.tuple #[.int .i64 (((dE s.data.toList).getD 0:Nat):Int),.bool (dE s.data.toList).isSome])/\Below w.heap.size w w':=by
 have D:=sS s;by_cases K:s.size=0
 ·have he:s.toList.isEmpty=true:=by rw[D];simp[K]
  have A:dE s.data.toList=none:=by unfold dE;rw[dN,K];rfl
  rw[A];clear D K A;go_in
  go_wp2_with fail
  refine bodyPost_ret (v:=.tuple #[.int .i64 0,.bool false]) (by simp[results,Tryz.results172,go_sem]) rfl ?_;exact⟨rfl,Below.refl _ _⟩
 have he:s.toList.isEmpty=false:=by rw[D];simp[K]
 by_cases x:9<s.size
 ·have u:(9:Int)<(s.size:Int):=by omega
  have A:dE s.data.toList=none:=by unfold dE;rw[dN,if_pos (.inr x)]
  rw[A];clear D K A x;go_in
  go_wp2_with fail
  refine bodyPost_ret (v:=.tuple #[.int .i64 0,.bool false]) (by simp[results,Tryz.results172,go_sem]) rfl ?_;exact⟨rfl,Below.refl _ _⟩
 have u:¬(9:Int)<(s.size:Int):=by omega
 have ad:s.size<=9:=by omega
 have c:s.size<=60000:=by omega
 obtain⟨n, y⟩:=ag (jU (fun i=>eH (bz s.data.toList i)) s.data.toList s.size 0)
 have E:dE s.data.toList=rZ s.data.toList 0:=by
  unfold dE;rw[dN,if_neg (by omega)]
 have A:(dE s.data.toList).isSome=decide (n=s.size):=by
  rw[E,Qo s.data.toList 0 0 s.data.toList rfl (Nat.zero_le _),dN];rw[show s.size - 0=s.size from rfl,y]
 have I:=fun w=>Np s w c
 rw[y]at I
 have U:n<=s.size:=by
  rw[<- y]
  have:∀(f a:Nat),a<=s.data.toList.length->jU (fun i=>eH (bz s.data.toList i)) s.data.toList f a<=s.data.toList.length:=by
   intro f
   induction f with
   | zero=>intro a h;exact h
   | succ f ih=>
    intro a h;unfold jU;split
    ·rename_i Z
     simp at Z;exact ih _ (by simp;omega)
    exact h
  have Z:=this s.size 0 (Nat.zero_le _);rw[dN]at Z;exact Z
 have R7:=kH I;clear y I x K D;by_cases V:n<s.size
 ·have X:(n:Int)<(s.size:Int):=by omega
  have O:decide (n=s.size)=false:=decide_eq_false (by omega);rw[O]at A;rw[show dE s.data.toList=none by cases hx:dE s.data.toList with|none=>rfl|some v=>(rw[hx]at A;cases A)];clear V O U A E;go_in
  go_wp2_with fail
  refine(R7.out w).mono ?_;rintro e w' ⟨rfl,rfl⟩;go_wp2_with fail
  refine bodyPost_ret (v:=.tuple #[.int .i64 0,.bool false]) (by simp[results,Tryz.results172,go_sem]) rfl ?_;exact⟨rfl,Below.refl _ _⟩
 have X:¬(n:Int)<(s.size:Int):=by omega
 have O:decide (n=s.size)=true:=decide_eq_true (by omega);rw[O]at A;obtain⟨r,Y⟩:∃r,dE s.data.toList=some r:=Option.isSome_iff_exists.1 A;rw[Y]at E⊢;have sJ:=kH E.symm;clear E Y A;have N:=run_bytes_of_string (P:=Tryz.prog) w 9 254 5 s Tryz.underlying9 Tryz.underlying254 Tryz.underlying5;obtain⟨W,L⟩:∃W:World,(w.drew.alloc (.cells (bytesRow s (grownCap w s.size 0 5)) 5 ((bytesRow s (grownCap w s.size 0 5)).size,(bytesRow s (grownCap w s.size 0 5)).size+1)))=W:=⟨_,rfl⟩
 rw[L]at N;have M:Below w.heap.size w W:=by rw[<- L];(repeat first|exact .refl _ _|assumption|refine .trans ?_ (.mono (by assumption) ?_)|refine .alloc ?_ ?_ _|refine .setCell ?_ ?_ _|refine .drew ?_|refine aL ?_ _|omega|(simp<;>omega))
 have C:∀(k:Nat) (h:k<s.size),W.cell? ⟨w.heap.size,k,none⟩=some (.int .u8 ((s[k]'h).toNat:Int)):=by
  intro k h;have T:k<s.data.size:=h
  have hh:W.heap[w.heap.size]? =some (.cells (bytesRow s (grownCap w s.size 0 5)) 5 ((bytesRow s (grownCap w s.size 0 5)).size,(bytesRow s (grownCap w s.size 0 5)).size+1)):=by
   rw[<- L];exact heap_alloc_new w.drew _
  have A:(bytesRow s (grownCap w s.size 0 5))[k]? =some (.int .u8 ((s[k]'h).toNat:Int)):=by
   unfold bytesRow;rw[Array.getElem?_append_left (by simpa using T)];simp only[Array.getElem?_map,Array.getElem?_eq_getElem T,Option.map_some];rfl
  simp[World.cell?,hh,A]
 obtain⟨ab, G⟩:=ag (grownCap w s.size 0 5);rw[G]at N;have lY:=kH M;have AU:=kH C;have an:w.heap.size<W.heap.size:=by rw[<- L];simp
 clear V O U L M C G;go_in
 go_wp2_with fail
 refine(R7.out w).mono ?_;rintro e w' ⟨rfl,rfl⟩;go_wp2_with fail
 go_loopg [4,24] s.size (fun gk s4 aa wr=> ∃(k m:Nat),k+gk=s.size/\s4= .int .i64 (m:Int)/\aa= .int .i64 (k:Int)/\W=wr/\rZ (s.data.toList.drop k) m=some r/\m<10 ^ k)
 case atStart=>exact⟨0,0,by omega,rfl,rfl,rfl,sJ.out,by decide⟩
 obtain⟨k,m,hk,rfl,rfl,rfl,B,hp⟩:=hrel
 cases gk with
 | zero=>
  have q:k=s.size:=by omega
  subst q
  have l:m=r:=by
   rw[List.drop_of_length_le (by rw[dN];exact ab9 _)]at B;simpa [rZ] using B
  subst l;clear B hp;go_wp2_with fail
  refine bodyPost_ret (v:=.tuple #[.int .i64 m,.bool true]) (by simp[results,Tryz.results172,go_sem]) rfl ?_;exact⟨rfl,lY.out⟩
 | succ gk=>
  have F:k<s.size:=by omega
  have a1:(k:Int)<(s.size:Int):=by omega
  have ao:IntKind.i64.wrap ((k:Int)+1)=(k:Int)+1:=IntWalk.i64_in _ (by omega);have t:=AU.out k F;have J:k<s.data.toList.length:=by rw[dN];exact F
  have R:s.data.toList[k]'J=s[k]'F:=rfl;rw[List.drop_eq_getElem_cons J,R]at B;generalize s[k]'F=b at t B
  unfold rZ at B
  have oM:eH b.toNat=true:=by
   cases hq:eH b.toNat with
   | true=>rfl
   | false=>rw[hq]at B;simp at B
  rw[if_pos oM]at B;have af:48<=b.toNat/\b.toNat<=57:=by simpa [eH] using oM
  have d:(10:Nat) ^ (k+1)<=10 ^ 9:=Nat.pow_le_pow_right (by omega) (by omega);have j:(10:Nat) ^ (k+1)=10 ^ k*10:=Nat.pow_succ ..;have H:10*m+(b.toNat - 48)<10 ^ (k+1):=by omega
  have g:(10:Nat) ^ 9=1000000000:=by decide
  have al:IntKind.i64.wrap (10*(m:Int))=10*(m:Int):=IntWalk.i64_in _ (by omega);have a6:IntKind.u8.wrap ((b.toNat:Int) - 48)=((b.toNat - 48:Nat):Int):=by rw[IntWalk.u8_in _ (by omega)];omega
  have a8:IntKind.i64.wrap (((b.toNat - 48:Nat):Int))=((b.toNat - 48:Nat):Int):=IntWalk.i64_in _ (by omega);have a7:IntKind.i64.wrap (10*(m:Int)+((b.toNat - 48:Nat):Int))=((10*m+(b.toNat - 48):Nat):Int):=by rw[IntWalk.i64_in _ (by omega)];omega
  obtain⟨z, hz⟩:=ag (b.toNat - 48);rw[hz]at B H a6 a7 a8;have HX:Hid (rZ (s.data.toList.drop (k+1)) (10*m+z)=some r/\10*m+z<10 ^ (k+1)):=kH ⟨B,H⟩;clear B hp oM d j H g R J hz;go_wp2_with fail
  go_roundg gk
  case measure=>omega
  exact⟨k+1,10*m+z,by omega,by first|rfl|simp,by simp,rfl,HX.out⟩
theorem IJ(t:ae):(t.kind=10/\(dE t.text.data.toList=none/\yI t=none\/∃n:Nat,dE t.text.data.toList=some n/\yI t=some (3,(n:Int),⟨#[]⟩))) \/
 (t.kind≠10/\t.kind=9/\((fP t.text [105,110,116]=true/\yI t=some (1,0,⟨#[]⟩))\/(fP t.text [105,110,116]=false/\fP t.text [98,111,111,108]=true/\yI t=some (2,0,⟨#[]⟩))\/(fP t.text [105,110,116]=false/\fP t.text [98,111,111,108]=false/\yI t=some (4,0,t.text)))) \/
 (t.kind≠10/\t.kind≠9/\yI t=none):=by
 unfold yI;by_cases A:t.kind=10
 ·left
  rw[if_pos A];refine⟨A,?_⟩
  cases C:dE t.text.data.toList with
  | none=>exact .inl ⟨rfl,rfl⟩
  | some n=>exact .inr ⟨n,rfl,rfl⟩
 right
 rw[if_neg A];by_cases B:t.kind=9
 ·left
  rw[if_pos B];refine⟨A,B,?_⟩;cases fP t.text [105,110,116]<;>cases fP t.text [98,111,111,108]<;>simp
 right
 rw[if_neg B];exact⟨A,B,rfl⟩
def Ps(x:Ty):Value:=.agg #[.int .i64 x.1,.int .i64 x.2.1,.string x.2.2]
def uw(o:Option Ty):Value:=.tuple #[Ps (o.getD (0,0,⟨#[]⟩)),.bool o.isSome]
theorem Gj(t:ae)(T:Option Addr)(d:Nat)(A:Option Addr)(n c:Nat)(nm:List ByteArray)(w:World)(h:jI w w.heap.size A n nm):
 Calls Tryz.prog 103 #[aO t T d,.slice A n c] w fun e w'=>e= .returned (uw (mG nm t))/\Below w.heap.size w w':=by
 obtain⟨k,x,a,z,m,hk,hx,-,-,-,dH⟩:=aW t T d;have Z:=IJ t;unfold mG;obtain⟨ty, a6⟩:=ag (yI t);rw[dH];rw[a6]at Z⊢;rw[hk,hx]at Z;obtain⟨K, I⟩:=ag (((w.alloc (.cells #[.int .i64 k,.string x,.int .i64 a,.int .i64 z,.slice T m d] 24)).alloc (.cells #[.int .i64 0,.int .i64 0,.string ⟨#[]⟩] 108)).alloc (.cells #[.int .i64 0,.int .i64 0,.string ⟨#[]⟩] 108));have hb:Below w.heap.size w K:=by rw[<- I];exact((ai w _).alloc (by simp) _).alloc (by simp;omega) _
 have hN:ah K w.heap.size 24 #[.int .i64 k,.string x,.int .i64 a,.int .i64 z,.slice T m d]:=by rw[<- I];exact((ah.new w _ _).alloc _).alloc _
 have X:ah K (w.heap.size+1) 108 #[.int .i64 0,.int .i64 0,.string ⟨#[]⟩]:=by
  rw[<- I];have:=(ah.new (w.alloc (.cells #[.int .i64 k,.string x,.int .i64 a,.int .i64 z,.slice T m d] 24)) 108 #[.int .i64 0,.int .i64 0,.string ⟨#[]⟩]).alloc (.cells #[.int .i64 0,.int .i64 0,.string ⟨#[]⟩] 108);simpa using this
 have Y:ah K (w.heap.size+2) 108 #[.int .i64 0,.int .i64 0,.string ⟨#[]⟩]:=by
  rw[<- I];have:=ah.new ((w.alloc (.cells #[.int .i64 k,.string x,.int .i64 a,.int .i64 z,.slice T m d] 24)).alloc (.cells #[.int .i64 0,.int .i64 0,.string ⟨#[]⟩] 108)) 108 #[.int .i64 0,.int .i64 0,.string ⟨#[]⟩];simpa using this
 have M:∀(W:World) (g:Nat) (q:Array Value) (O R:Int) (r':ByteArray),q.size=3->ah W g 108 q->ah (((W.setCell ⟨g,0,none⟩ (.int .i64 O)).setCell ⟨g,1,none⟩ (.int .i64 R)).setCell ⟨g,2,none⟩ (.string r')) g 108 #[.int .i64 O,.int .i64 R,.string r']:=fun W g q O R r' hq hX=>by
  have h3:=((hX.dB 0 (.int .i64 O)).dB 1 (.int .i64 R)).dB 2 (.string r');obtain⟨l⟩:=q
  match l,hq with
  | [q0,q1,q2],_=>simpa using h3
 have vF:=kH M
 have L:∀(W N:World) (q:Array Value) (O R:Int) (r':ByteArray),q.size=3->ah W (w.heap.size+1) 108 q->Below w.heap.size w W->((W.setCell ⟨w.heap.size+1,0,none⟩ (.int .i64 O)).setCell ⟨w.heap.size+1,1,none⟩ (.int .i64 R)).setCell ⟨w.heap.size+1,2,none⟩ (.string r')=N->ah N (w.heap.size+1) 108 #[.int .i64 O,.int .i64 R,.string r']/\Below w.heap.size w N:=fun W N q O R r' hq hX hB e=>by
  subst e;exact⟨M _ _ _ _ _ _ hq hX,((hB.setCell (by show w.heap.size<=w.heap.size+1;omega) _).setCell (by show w.heap.size<=w.heap.size+1;omega) _).setCell (by show w.heap.size<=w.heap.size+1;omega) _⟩
 have Mh:=kH L;have D:Hid (Below w.heap.size w K/\ah K w.heap.size 24 #[.int .i64 k,.string x,.int .i64 a,.int .i64 z,.slice T m d]/\ah K (w.heap.size+1) 108 #[.int .i64 0,.int .i64 0,.string ⟨#[]⟩]/\ah K (w.heap.size+2) 108 #[.int .i64 0,.int .i64 0,.string ⟨#[]⟩]):=kH ⟨hb,hN,X,Y⟩;have Zy:=kH Z;have HR:=kH h;have b0:=hN.cell 0;have b1:=hN.cell 1;have bl:=hN.lt;have cl:=X.lt;have dl:=Y.lt;have r0:=X.cell 0;have r1:=X.cell 1;have r2:=X.cell 2;have d0:=Y.cell 0;have d1:=Y.cell 1;have d2:=Y.cell 2;have rf:=And.intro (X.frozen 0) (And.intro (X.frozen 1) (X.frozen 2));have df:=And.intro (Y.frozen 0) (And.intro (Y.frozen 1) (Y.frozen 2));obtain⟨FD,FC,FB⟩:=rf;obtain⟨Ro,Rn,V⟩:=df;clear M L Z h hb hN X Y hk hx a6;go_in
 go_upto_block 0 with(rw[I])
 clear I;go_cut [] (fun wx=> ∃y:Ty,ty=some y/\Hid (Below w.heap.size w wx/\ah wx (w.heap.size+1) 108 #[.int .i64 0,.int .i64 0,.string ⟨#[]⟩]/\ah wx (w.heap.size+2) 108 #[.int .i64 y.1,.int .i64 y.2.1,.string y.2.2]))
 case first=>
  unfold fP at Zy;rcases Zy.out with⟨rfl,⟨hn,rfl⟩| ⟨n,hn,rfl⟩⟩| ⟨a7,rfl,⟨g1,rfl⟩| ⟨g1,g2,rfl⟩| ⟨g1,g2,rfl⟩⟩| ⟨a7,E,rfl⟩
  ·have G:=Gz x K
   rw[hn]at G;have Ju:=kH G;clear G hn r0 r1 r2 d0 d1 d2 FD FC FB Ro Rn V cl dl;go_wp2_with fail
   refine Ju.out.mono ?_;rintro e u ⟨rfl,C⟩;have B:=D.out.2.2.1.below C D.out.2.2.1.lt;have r0:=B.cell 0;have r1:=B.cell 1;have r2:=B.cell 2;have rl:=B.lt;have FD:=B.frozen 0;have FC:=B.frozen 1;have FB:=B.frozen 2;obtain⟨N, U⟩:=ag (((u.setCell ⟨w.heap.size+1,0,none⟩ (.int .i64 0)).setCell ⟨w.heap.size+1,1,none⟩ (.int .i64 0)).setCell ⟨w.heap.size+1,2,none⟩ (.string ⟨#[]⟩));obtain⟨E,b⟩:=Mh.out _ _ _ _ _ _ (by rfl) B (D.out.1.trans (C.mono D.out.1.size)) U;clear C B;simp only[Option.isSome_none,Option.getD_none];go_wp2_with fail
   try simp only[Exit.inBlock,Exit.then]
   refine bodyPost_ret (v:=uw none) (by simp[results,Tryz.results103,go_sem,E.cell 0,E.cell 1,E.cell 2,uw,Ps]) rfl ?_;exact⟨rfl,b⟩
  ·have G:=Gz x K
   rw[hn]at G;have Ju:=kH G;clear G hn r0 r1 r2 d0 d1 d2 FD FC FB Ro Rn V cl dl;go_wp2_with fail
   refine Ju.out.mono ?_;rintro e u ⟨rfl,C⟩;have B:=D.out.2.2.1.below C D.out.2.2.1.lt;have F:=D.out.2.2.2.below C D.out.2.2.2.lt;have d0:=F.cell 0;have d1:=F.cell 1;have d2:=F.cell 2;have dl:=F.lt;have Ro:=F.frozen 0;have Rn:=F.frozen 1;have V:=F.frozen 2;have HE:=kH (vF.out u (w.heap.size+1+1) _ 3 (n:Int) ⟨#[]⟩ (by rfl) F);have a1:Hid (Below w.heap.size w u/\ah u (w.heap.size+1) 108 #[.int .i64 0,.int .i64 0,.string ⟨#[]⟩]):=kH ⟨D.out.1.trans (C.mono D.out.1.size),B⟩;clear C B F;simp only[Option.isSome_some,Option.getD_some];go_wp2_with fail
   go_meet
   exact⟨_,rfl,kH ⟨((a1.out.1.setCell (by show w.heap.size<=w.heap.size+1+1;omega) _).setCell (by show w.heap.size<=w.heap.size+1+1;omega) _).setCell (by show w.heap.size<=w.heap.size+1+1;omega) _,((a1.out.2.far (by simp) _).far (by simp) _).far (by simp) _,HE.out⟩⟩
  iterate 2
   go_wp2_with fail
   go_meet
   exact⟨_,rfl,kH ⟨D.out.1.setCell (by show w.heap.size<=w.heap.size+1+1;omega) _,D.out.2.2.1.far (by simp) _,by simpa using D.out.2.2.2.dB 0 _⟩⟩
  ·go_wp2_with fail
   go_meet
   exact⟨_,rfl,kH ⟨((D.out.1.setCell (by show w.heap.size<=w.heap.size+1+1;omega) _).setCell (by show w.heap.size<=w.heap.size+1+1;omega) _).setCell (by show w.heap.size<=w.heap.size+1+1;omega) _,((D.out.2.2.1.far (by simp) _).far (by simp) _).far (by simp) _,vF.out _ _ _ _ _ _ (by rfl) D.out.2.2.2⟩⟩
  obtain⟨N, U⟩:=ag (((K.setCell ⟨w.heap.size+1,0,none⟩ (.int .i64 0)).setCell ⟨w.heap.size+1,1,none⟩ (.int .i64 0)).setCell ⟨w.heap.size+1,2,none⟩ (.string ⟨#[]⟩));obtain⟨E,b⟩:=Mh.out _ _ _ _ _ _ (by rfl) D.out.2.2.1 D.out.1 U;go_wp2_with fail
  try simp only[Exit.inBlock,Exit.then]
  rw[U];refine bodyPost_ret (v:=uw none) (by simp[results,Tryz.results103,go_sem,E.cell 0,E.cell 1,E.cell 2,uw,Ps]) rfl ?_;exact⟨rfl,b⟩
 obtain⟨⟨yk,yl,yr⟩,rfl,J⟩:=hcut;obtain⟨wo,rfl⟩:∃W:World,W=wc:=⟨_,rfl⟩
 have e0:=J.out.2.2.cell 0;have e1:=J.out.2.2.cell 1;have e2:=J.out.2.2.cell 2;have el:=J.out.2.2.lt;clear r0 r1 r2 d0 d1 d2 FD FC FB Ro Rn V cl dl b0 b1 bl;go_wp2_with fail
 have f:=UU yk yl yr A n c nm wo ((HR.out.below J.out.1 (ab9 _)).mono J.out.1.size);obtain⟨vb, j⟩:=ag (lN nm (yk,yl,yr));rw[j]at f;refine f.mono ?_;rintro e u ⟨rfl,C⟩;have B:=J.out.2.1.below C J.out.2.1.lt;have F:=J.out.2.2.below C J.out.2.2.lt;have r:=J.out.1.trans (C.mono J.out.1.size);have e0:=F.cell 0;have e1:=F.cell 1;have e2:=F.cell 2;have el:=F.lt;have r0:=B.cell 0;have r1:=B.cell 1;have r2:=B.cell 2;have rl:=B.lt;have FD:=B.frozen 0;have FC:=B.frozen 1;have FB:=B.frozen 2;have Ee:=kH j;have HE:=kH r;have H:=fun N O R r'=>Mh.out u N _ O R r' (by rfl) B r
 clear j f C B F r;cases vb
 ·obtain⟨N, U⟩:=ag (((u.setCell ⟨w.heap.size+1,0,none⟩ (.int .i64 0)).setCell ⟨w.heap.size+1,1,none⟩ (.int .i64 0)).setCell ⟨w.heap.size+1,2,none⟩ (.string ⟨#[]⟩))
  obtain⟨E,b⟩:=H _ _ _ _ U;clear H;go_wp2_with fail
  try simp only[Exit.inBlock,Exit.then]
  try rw[U]
  refine bodyPost_ret (v:=uw none) (by simp[results,Tryz.results103,go_sem,E.cell 0,E.cell 1,E.cell 2,uw,Ps]) rfl ?_;exact⟨by simp[Option.filter,Ee.out],b⟩
 obtain⟨N, U⟩:=ag (((u.setCell ⟨w.heap.size+1,0,none⟩ (.int .i64 yk)).setCell ⟨w.heap.size+1,1,none⟩ (.int .i64 yl)).setCell ⟨w.heap.size+1,2,none⟩ (.string yr));obtain⟨E,b⟩:=H _ _ _ _ U;clear H;go_wp2_with fail
 try simp only[Exit.inBlock,Exit.then]
 try rw[U]
 refine bodyPost_ret (v:=uw (some (yk,yl,yr))) (by simp[results,Tryz.results103,go_sem,E.cell 0,E.cell 1,E.cell 2,uw,Ps]) rfl ?_;exact⟨by simp[Option.filter,Ee.out],b⟩
theorem KJ(x:ByteArray)(w:World):Calls Tryz.prog 112 #[.string x] w fun e w'=>e= .returned (.agg #[.int .i64 (if fP x [98,111,111,108]=true then 2 else 1),.int .i64 0,.string ⟨#[]⟩])/\Below w.heap.size w w':=by
 unfold fP;obtain⟨b, A⟩:=ag ((x.toList==[98,111,111,108]));rw[A];cases b
 all_goals
  go_in
  go_wp2_with fail
 ·refine bodyPost_ret (v:=.agg #[.int .i64 1,.int .i64 0,.string ⟨#[]⟩]) (by simp[results,Tryz.results112,go_sem]) rfl ?_
  exact⟨rfl,by(repeat first|exact .refl _ _|assumption|refine .trans ?_ (.mono (by assumption) ?_)|refine .alloc ?_ ?_ _|refine .setCell ?_ ?_ _|refine .drew ?_|refine aL ?_ _|omega|(simp<;>omega))⟩
 refine bodyPost_ret (v:=.agg #[.int .i64 2,.int .i64 0,.string ⟨#[]⟩]) (by simp[results,Tryz.results112,go_sem]) rfl ?_;exact⟨rfl,by(repeat first|exact .refl _ _|assumption|refine .trans ?_ (.mono (by assumption) ?_)|refine .alloc ?_ ?_ _|refine .setCell ?_ ?_ _|refine .drew ?_|refine aL ?_ _|omega|(simp<;>omega))⟩
theorem OP(t:ae)(T:Option Addr)(d:Nat)(A:Option Addr)(n c:Nat)(nm:List ByteArray)(w:World)(h:jI w w.heap.size A n nm):
 Calls Tryz.prog 178 #[aO t T d,.slice A n c] w fun e w'=>e= .returned (uw (mG nm t))/\Below w.heap.size w w':=by
 obtain⟨k,x,a,z,m,hk,hx,-,-,-,dH⟩:=aW t T d;have V:=IJ t;unfold mG;obtain⟨ty, M⟩:=ag (yI t);rw[dH];rw[M]at V⊢;rw[hk,hx]at V;obtain⟨J, H⟩:=ag (((w.alloc (.cells #[.int .i64 k,.string x,.int .i64 a,.int .i64 z,.slice T m d] 24)).alloc (.cells #[.int .i64 0,.int .i64 0,.string ⟨#[]⟩] 108)).alloc (.cells #[.int .i64 0,.int .i64 0,.string ⟨#[]⟩] 108));have hb:Below w.heap.size w J:=by rw[<- H];exact((ai w _).alloc (by simp) _).alloc (by simp;omega) _
 have hN:ah J w.heap.size 24 #[.int .i64 k,.string x,.int .i64 a,.int .i64 z,.slice T m d]:=by rw[<- H];exact((ah.new w _ _).alloc _).alloc _
 have R:ah J (w.heap.size+1) 108 #[.int .i64 0,.int .i64 0,.string ⟨#[]⟩]:=by
  rw[<- H];have:=(ah.new (w.alloc (.cells #[.int .i64 k,.string x,.int .i64 a,.int .i64 z,.slice T m d] 24)) 108 #[.int .i64 0,.int .i64 0,.string ⟨#[]⟩]).alloc (.cells #[.int .i64 0,.int .i64 0,.string ⟨#[]⟩] 108);simpa using this
 have U:ah J (w.heap.size+2) 108 #[.int .i64 0,.int .i64 0,.string ⟨#[]⟩]:=by
  rw[<- H];have:=ah.new ((w.alloc (.cells #[.int .i64 k,.string x,.int .i64 a,.int .i64 z,.slice T m d] 24)).alloc (.cells #[.int .i64 0,.int .i64 0,.string ⟨#[]⟩] 108)) 108 #[.int .i64 0,.int .i64 0,.string ⟨#[]⟩];simpa using this
 have L:∀(W:World) (g:Nat) (q:Array Value) (N O:Int) (r':ByteArray),q.size=3->ah W g 108 q->ah (((W.setCell ⟨g,0,none⟩ (.int .i64 N)).setCell ⟨g,1,none⟩ (.int .i64 O)).setCell ⟨g,2,none⟩ (.string r')) g 108 #[.int .i64 N,.int .i64 O,.string r']:=fun W g q N O r' hq r=>by
  have h3:=((r.dB 0 (.int .i64 N)).dB 1 (.int .i64 O)).dB 2 (.string r');obtain⟨l⟩:=q
  match l,hq with
  | [q0,q1,q2],_=>simpa using h3
 have vF:=kH L
 have K:∀(W Z:World) (q:Array Value) (N O:Int) (r':ByteArray),q.size=3->ah W (w.heap.size+1) 108 q->Below w.heap.size w W->((W.setCell ⟨w.heap.size+1,0,none⟩ (.int .i64 N)).setCell ⟨w.heap.size+1,1,none⟩ (.int .i64 O)).setCell ⟨w.heap.size+1,2,none⟩ (.string r')=Z->ah Z (w.heap.size+1) 108 #[.int .i64 N,.int .i64 O,.string r']/\Below w.heap.size w Z:=fun W Z q N O r' hq r hB e=>by
  subst e;exact⟨L _ _ _ _ _ _ hq r,((hB.setCell (by show w.heap.size<=w.heap.size+1;omega) _).setCell (by show w.heap.size<=w.heap.size+1;omega) _).setCell (by show w.heap.size<=w.heap.size+1;omega) _⟩
 have Mh:=kH K;have D:Hid (Below w.heap.size w J/\ah J w.heap.size 24 #[.int .i64 k,.string x,.int .i64 a,.int .i64 z,.slice T m d]/\ah J (w.heap.size+1) 108 #[.int .i64 0,.int .i64 0,.string ⟨#[]⟩]/\ah J (w.heap.size+2) 108 #[.int .i64 0,.int .i64 0,.string ⟨#[]⟩]):=kH ⟨hb,hN,R,U⟩;have Zy:=kH V;have HR:=kH h;have b0:=hN.cell 0;have b1:=hN.cell 1;have bl:=hN.lt;have cl:=R.lt;have dl:=U.lt;have r0:=R.cell 0;have r1:=R.cell 1;have r2:=R.cell 2;have d0:=U.cell 0;have d1:=U.cell 1;have d2:=U.cell 2;have rf:=And.intro (R.frozen 0) (And.intro (R.frozen 1) (R.frozen 2));have df:=And.intro (U.frozen 0) (And.intro (U.frozen 1) (U.frozen 2));obtain⟨FD,FC,FB⟩:=rf;obtain⟨Ro,Rn,a6⟩:=df;clear L K V h hb hN R U hk hx M;go_in
 have a1:=kH H;clear H;go_upto_block 0 with fail
 rw[a1.out];clear a1;go_cut [] (fun wx=> ∃y:Ty,(ty=some y\/(ty=none/\lN nm y=false))/\Hid (Below w.heap.size w wx/\ah wx (w.heap.size+1) 108 #[.int .i64 0,.int .i64 0,.string ⟨#[]⟩]/\ah wx (w.heap.size+2) 108 #[.int .i64 y.1,.int .i64 y.2.1,.string y.2.2]))
 case first=>
  unfold fP at Zy;rcases Zy.out with⟨rfl,⟨hn,rfl⟩| ⟨n,hn,rfl⟩⟩| ⟨a8,rfl,⟨g1,rfl⟩| ⟨g1,g2,rfl⟩| ⟨g1,g2,rfl⟩⟩| ⟨a8,u,rfl⟩
  ·have F:=Fj x J
   rw[hn]at F;have Ju:=kH F;clear F hn;go_wp2_with fail
   refine Ju.out.mono ?_;rintro e Y ⟨rfl,rfl⟩;simp only[Option.isSome_none,Option.getD_none];go_wp2_with fail
   go_meet
   exact⟨(3,0,⟨#[]⟩),.inr ⟨by first|rfl|trivial,rfl⟩,kH ⟨((D.out.1.setCell (by show w.heap.size<=w.heap.size+1+1;omega) _).setCell (by show w.heap.size<=w.heap.size+1+1;omega) _).setCell (by show w.heap.size<=w.heap.size+1+1;omega) _,((D.out.2.2.1.far (by simp) _).far (by simp) _).far (by simp) _,vF.out _ _ _ _ _ _ (by rfl) D.out.2.2.2⟩⟩
  ·have F:=Fj x J
   rw[hn]at F;have Ju:=kH F;clear F hn;go_wp2_with fail
   refine Ju.out.mono ?_;rintro e Y ⟨rfl,rfl⟩;simp only[Option.isSome_some,Option.getD_some];go_wp2_with fail
   go_meet
   exact⟨_,.inl rfl,kH ⟨((D.out.1.setCell (by show w.heap.size<=w.heap.size+1+1;omega) _).setCell (by show w.heap.size<=w.heap.size+1+1;omega) _).setCell (by show w.heap.size<=w.heap.size+1+1;omega) _,((D.out.2.2.1.far (by simp) _).far (by simp) _).far (by simp) _,vF.out _ _ _ _ _ _ (by rfl) D.out.2.2.2⟩⟩
  iterate 2
   obtain⟨X, r⟩:=ag (((J.setCell ⟨w.heap.size+1+1,0,none⟩ (.int .i64 4)).setCell ⟨w.heap.size+1+1,1,none⟩ (.int .i64 0)).setCell ⟨w.heap.size+1+1,2,none⟩ (.string x))
   have HX:Hid (Below w.heap.size w X/\ah X (w.heap.size+1) 108 #[.int .i64 0,.int .i64 0,.string ⟨#[]⟩]/\ah X (w.heap.size+2) 108 #[.int .i64 4,.int .i64 0,.string x]):=kH (by
    rw[<- r]
    exact⟨((D.out.1.setCell (by show w.heap.size<=w.heap.size+1+1;omega) _).setCell (by show w.heap.size<=w.heap.size+1+1;omega) _).setCell (by show w.heap.size<=w.heap.size+1+1;omega) _,((D.out.2.2.1.far (by simp) _).far (by simp) _).far (by simp) _,vF.out _ _ _ _ _ _ (by rfl) D.out.2.2.2⟩)
   have a7:ah X w.heap.size 24 #[.int .i64 9,.string x,.int .i64 a,.int .i64 z,.slice T m d]:=by rw[<- r];exact((D.out.2.1.far (by show w.heap.size≠w.heap.size+1+1;omega) _).far (by show w.heap.size≠w.heap.size+1+1;omega) _).far (by show w.heap.size≠w.heap.size+1+1;omega) _
   have aa:=a7.cell 1;clear a7;go_wp2_with (rw[r])
   refine(KJ x X).mono ?_;rintro e Y ⟨rfl,C⟩;have B:=HX.out.2.1.below C HX.out.2.1.lt;have E:=HX.out.2.2.below C HX.out.2.2.lt;have HE:Hid (Below w.heap.size w Y/\ah Y (w.heap.size+1) 108 #[.int .i64 0,.int .i64 0,.string ⟨#[]⟩]/\ah Y (w.heap.size+2) 108 #[.int .i64 4,.int .i64 0,.string x]):=kH ⟨HX.out.1.trans (C.mono HX.out.1.size),B,E⟩;have e0:=E.cell 0;have e1:=E.cell 1;have e2:=E.cell 2;have f0:=E.frozen 0;have f1:=E.frozen 1;have f2:=E.frozen 2;have el:=E.lt;have gb:fP x [98,111,111,108]=(x.toList==[98,111,111,108]):=rfl;first|rw[gb,g2]|rw[gb,eq_of_beq g1]
   clear B E C r gb d0 d1 d2 Ro Rn a6 dl;simp only[if_true,Bool.false_eq_true,if_false];go_wp2_with fail
   go_meet
   exact⟨_,.inl rfl,kH ⟨((HE.out.1.setCell (by show w.heap.size<=w.heap.size+1+1;omega) _).setCell (by show w.heap.size<=w.heap.size+1+1;omega) _).setCell (by show w.heap.size<=w.heap.size+1+1;omega) _,((HE.out.2.1.far (by simp) _).far (by simp) _).far (by simp) _,vF.out _ _ _ _ _ _ (by rfl) HE.out.2.2⟩⟩
  ·go_wp2_with fail
   go_meet
   exact⟨_,.inl rfl,kH ⟨((D.out.1.setCell (by show w.heap.size<=w.heap.size+1+1;omega) _).setCell (by show w.heap.size<=w.heap.size+1+1;omega) _).setCell (by show w.heap.size<=w.heap.size+1+1;omega) _,((D.out.2.2.1.far (by simp) _).far (by simp) _).far (by simp) _,vF.out _ _ _ _ _ _ (by rfl) D.out.2.2.2⟩⟩
  go_wp2_with fail
  go_meet
  exact⟨(0,0,⟨#[]⟩),.inr ⟨by first|rfl|trivial,rfl⟩,kH ⟨D.out.1,D.out.2.2.1,D.out.2.2.2⟩⟩
 obtain⟨⟨yk,yl,yr⟩,M,I⟩:=hcut;have Ef:=kH M;clear M;obtain⟨wo,rfl⟩:∃W:World,W=wc:=⟨_,rfl⟩
 have e0:=I.out.2.2.cell 0;have e1:=I.out.2.2.cell 1;have e2:=I.out.2.2.cell 2;have el:=I.out.2.2.lt;clear r0 r1 r2 d0 d1 d2 FD FC FB Ro Rn a6 cl dl b0 b1 bl;go_wp2_with fail
 have b:=SH yk yl yr A n c nm wo ((HR.out.below I.out.1 (ab9 _)).mono I.out.1.size);obtain⟨vb, f⟩:=ag (lN nm (yk,yl,yr));rw[f]at b;refine b.mono ?_;rintro e Y ⟨rfl,C⟩;have B:=I.out.2.1.below C I.out.2.1.lt;have E:=I.out.2.2.below C I.out.2.2.lt;have j:=I.out.1.trans (C.mono I.out.1.size);have e0:=E.cell 0;have e1:=E.cell 1;have e2:=E.cell 2;have el:=E.lt;have r0:=B.cell 0;have r1:=B.cell 1;have r2:=B.cell 2;have rl:=B.lt;have FD:=B.frozen 0;have FC:=B.frozen 1;have FB:=B.frozen 2;have Ee:=kH f;have HE:=kH j;have G:=fun Z N O r'=>Mh.out Y Z _ N O r' (by rfl) B j
 clear f b C B E j;cases vb
 ·obtain⟨Z, nC⟩:=ag (((Y.setCell ⟨w.heap.size+1,0,none⟩ (.int .i64 0)).setCell ⟨w.heap.size+1,1,none⟩ (.int .i64 0)).setCell ⟨w.heap.size+1,2,none⟩ (.string ⟨#[]⟩))
  obtain⟨u,nZ⟩:=G _ _ _ _ nC;clear G;go_wp2_with fail
  try simp only[Exit.inBlock,Exit.then]
  try rw[nC]
  refine bodyPost_ret (v:=uw none) (by simp[results,Tryz.results178,go_sem,u.cell 0,u.cell 1,u.cell 2,uw,Ps]) rfl ?_;exact⟨by rcases Ef.out with rfl| ⟨rfl,e⟩ <;>simp_all [Option.filter,Ee.out],nZ⟩
 obtain⟨Z, nC⟩:=ag (((Y.setCell ⟨w.heap.size+1,0,none⟩ (.int .i64 yk)).setCell ⟨w.heap.size+1,1,none⟩ (.int .i64 yl)).setCell ⟨w.heap.size+1,2,none⟩ (.string yr));obtain⟨u,nZ⟩:=G _ _ _ _ nC;clear G;go_wp2_with fail
 try simp only[Exit.inBlock,Exit.then]
 try rw[nC]
 refine bodyPost_ret (v:=uw (some (yk,yl,yr))) (by simp[results,Tryz.results178,go_sem,u.cell 0,u.cell 1,u.cell 2,uw,Ps]) rfl ?_;exact⟨by rcases Ef.out with rfl| ⟨rfl,e⟩ <;>simp_all [Option.filter,Ee.out],nZ⟩
theorem PW(E:CE)(C:CM)(B:Nat)(out:List bD)(w:World)(h:kD E out w)(l:RH E C B w)(O:E.base<=w.heap.size)(n i:Nat)(y:ae)(hy:C.N[i]? =some y)(hN:out.length<=1000000):
 Calls Tryz.prog 113 #[.pointer (some ⟨E.cb,0,none⟩),.int .i64 (n:Int),.int .i64 (i:Int)] w fun e w'=>e= .returned (.tuple #[])/\kD E (out++xG C n y) w'/\CX E.base E.cb w w':=by
 obtain⟨D,L,T,c,hA,a8,g0,g1,g2,g3,g4,oJ⟩:=kZ l.nd hy;have al:(i:Int)<(E.rn:Int):=by rw[<- l.nn];have:=(acg.1 hy).1;omega
 have ad:D<w.heap.size:=Nat.lt_of_lt_of_le a8 l.bw;obtain⟨yk,yx,ya,yz,yn,hk,hx,ha,hz,hn,dH⟩:=aW y T c;rw[hk]at g0;rw[hx]at g1;rw[ha]at g2;rw[hz]at g3;rw[hn]at g4
 have fE:∀W,Below w.heap.size w W->W.cell? ⟨E.cb,0,none⟩=some (.slice (some ⟨D,L,none⟩) E.rn E.rc)/\W.cell? ⟨E.cb,3,none⟩=some (.slice E.sA E.sn E.sc)/\W.cell? ⟨D,L+i*5,none⟩=some (.int .i64 yk)/\W.cell? ⟨D,L+i*5+1,none⟩=some (.string yx)/\W.cell? ⟨D,L+i*5+2,none⟩=some (.int .i64 ya)/\W.cell? ⟨D,L+i*5+3,none⟩=some (.int .i64 yz)/\W.cell? ⟨D,L+i*5+4,none⟩=some (.slice T yn c):=fun W hb=>by
  obtain⟨oA,oc,hC,-⟩:=h.below hb;have e:∀o,W.cell? ⟨D,o,none⟩=w.cell? ⟨D,o,none⟩:=fun o=>hb.cell (p:=⟨D,o,none⟩) ad
  exact⟨by rw[<- hA];exact hC.cell 0,hC.cell 3,(e _).trans g0,(e _).trans g1,(e _).trans g2,(e _).trans g3,(e _).trans g4⟩
 have R:∀W,Below w.heap.size w W->Calls Tryz.prog 178 #[aO y T c,.slice E.sA E.sn E.sc] W fun e w'=>e= .returned (uw (mG C.nm y))/\Below W.heap.size W w':=fun W hb=>OP y T c E.sA E.sn E.sc C.nm W ((l.rc.below hb l.bw).mono (aca l.bw hb.size))
 rw[dH]at R;obtain⟨o, ho⟩:=ag (mG C.nm y);unfold xG;rw[ho]at R⊢;obtain⟨⟨G,H,I⟩,a6⟩:∃q:Ty,o.getD (0,0,⟨#[]⟩)=q:=⟨_,rfl⟩
 obtain⟨ok, a1⟩:=ag o.isSome;have ab:uw o= .tuple #[.agg #[.int .i64 G,.int .i64 H,.string I],.bool ok]:=by unfold uw;rw[a6,a1];rfl
 rw[ab]at R;have bP:=kH fE;have Ho:=kH R;have HP:=kH h;have HR:=kH l;have HO:Hid (o.getD (0,0,⟨#[]⟩)=(G,H,I)/\o.isSome=ok/\E.base<=w.heap.size/\out.length<=1000000):=kH ⟨a6,a1,O,hN⟩;have HY:=kH hy;have lc:E.cb<w.heap.size:=by obtain⟨oA,oc,hC,-⟩:=h;exact hC.lt
 clear fE R h l a6 a1 O hN hy ab ho g0 g1 g2 g3 g4 hk hx ha hz hn hA oJ dH a8;go_in
 go_wp2_with fail
 go_cut [6,7] (fun s6 s7 wx=> ∃g,s6= .pointer (some ⟨g,0,none⟩)/\s7= .bool ok/\Hid (ah wx g 108 #[.int .i64 G,.int .i64 H,.string I]/\Below w.heap.size w wx))
 case first=>
  have k:Below w.heap.size w w.drew:=(Below.refl _ _).drew;have d:=bP.out _ k;refine mO (fun W=>W.cell? ⟨E.cb,0,none⟩=some (.slice (some ⟨D,L,none⟩) E.rn E.rc)/\W.cell? ⟨E.cb,3,none⟩=some (.slice E.sA E.sn E.sc)/\W.cell? ⟨D,L+i*5,none⟩=some (.int .i64 yk)/\W.cell? ⟨D,L+i*5+1,none⟩=some (.string yx)/\W.cell? ⟨D,L+i*5+2,none⟩=some (.int .i64 ya)/\W.cell? ⟨D,L+i*5+3,none⟩=some (.int .i64 yz)/\W.cell? ⟨D,L+i*5+4,none⟩=some (.slice T yn c)) [] (.soft 0 (.soft 1 (.soft 2 (.soft 3 (.soft 4 (.soft 5 (.soft 6 (.soft 7 (.soft 8 (.soft 9 (.soft 10 (.fork 11 (.soft 12 (.soft 13 (.soft 14 (.hard 15 (.hard 16 (.soft 17 .done)))))) 15 (.hard 11 (.soft 12 (.soft 13 (.soft 14 (.hard 16 (.soft 17 .done)))))))))))))))))) (by kernel_rfl) (by kernel_rfl) rfl (by kernel_rfl) ?_
  iterate 11
   refine dX (by simp only[acj,aci,ach];rfl) (by rfl) d (by intro w' A;obtain⟨X,Y,Z,z,v,u,t⟩:=A;go_simp;rfl) ?_;simp only[Act.put,sA,sZ,sC]
  refine sN ?_ ?_
  ·refine ig (by simp only[acj,aci,ach];rfl) (by rfl) (by go_simp) ((Ho.out _ k).mono ?_)
   rintro e2 K ⟨rfl,J⟩;have U:Below w.heap.size w K:=k.trans (J.mono k.size);have F:=bP.out _ U;have f:∀q,Below w.heap.size w (K.alloc (.cells q 108)):=fun q=>U.alloc U.size _
   have m:=fun q=>bP.out _ (f q)
   have a7:=m #[.int .i64 G,.int .i64 H,.string I];have HE:Hid (ah (K.alloc (.cells #[.int .i64 G,.int .i64 H,.string I] 108)) K.heap.size 108 #[.int .i64 G,.int .i64 H,.string I]/\Below w.heap.size w (K.alloc (.cells #[.int .i64 G,.int .i64 H,.string I] 108))):=kH ⟨ah.new _ _ _,f _⟩;refine⟨_,rfl,fun _=>F,?_⟩;simp only[Act.put,sA,sZ,sC]
   iterate 3
    refine dX (by simp only[acj,aci,ach];rfl) (by rfl) F (by intro w' A;obtain⟨X,Y,Z,z,v,u,t⟩:=A;go_simp;rfl) ?_;simp only[Act.put,sA,sZ,sC]
   refine cB (gY (w':=K.alloc (.cells #[.int .i64 0,.int .i64 0,.string ⟨#[]⟩] 108)) (by simp only[acj,aci,ach];rfl) (by rfl) (by go_simp;rfl) (fun _=>m _) ?_);simp only[Act.put,sA,sZ,sC];refine cB (je (w':=K.alloc (.cells #[.int .i64 G,.int .i64 H,.string I] 108)) (by simp only[acj,aci,ach];rfl) (by rfl) (by go_simp) (fun _=>m _) ?_);simp only[Act.put,sA,sZ,sC]
   iterate 1
    refine dX (by simp only[acj,aci,ach];rfl) (by rfl) a7 (by intro w' A;obtain⟨X,Y,Z,z,v,u,t⟩:=A;go_simp;rfl) ?_;simp only[Act.put,sA,sZ,sC]
   refine kR ?_;clear d k J U F f m a7;go_wp2_with fail
   go_meet
   exact⟨_,rfl,rfl,HE⟩
  have U:Below w.heap.size w (w.drew.alloc (.cells #[.int .i64 0,.int .i64 0,.string ⟨#[]⟩] 108)):=k.alloc k.size _;refine gY (w':=w.drew.alloc (.cells #[.int .i64 0,.int .i64 0,.string ⟨#[]⟩] 108)) (by simp only[acj,aci,ach];rfl) (by rfl) (by go_simp;rfl) (fun _=>bP.out _ U) ?_;simp only[Act.put,sA,sZ,sC];refine cB (ig (by simp only[acj,aci,ach];rfl) (by rfl) (by go_simp) ((Ho.out _ U).mono ?_));rintro e2 K ⟨rfl,J⟩;have M:ah K w.heap.size 108 #[.int .i64 0,.int .i64 0,.string ⟨#[]⟩]:=(ah.new w.drew 108 #[.int .i64 0,.int .i64 0,.string ⟨#[]⟩]).below J (by simp);have vB:Below w.heap.size w K:=U.trans (J.mono U.size);have F:=bP.out _ vB;have HE:Hid (ah (((K.setCell ⟨w.heap.size,0,none⟩ (.int .i64 G)).setCell ⟨w.heap.size,1,none⟩ (.int .i64 H)).setCell ⟨w.heap.size,2,none⟩ (.string I)) w.heap.size 108 #[.int .i64 G,.int .i64 H,.string I]/\Below w.heap.size w (((K.setCell ⟨w.heap.size,0,none⟩ (.int .i64 G)).setCell ⟨w.heap.size,1,none⟩ (.int .i64 H)).setCell ⟨w.heap.size,2,none⟩ (.string I))):=kH ⟨by simpa using((M.dB 0 (.int .i64 G)).dB 1 (.int .i64 H)).dB 2 (.string I),((vB.setCell (ab9 _) _).setCell (ab9 _) _).setCell (ab9 _) _⟩;have m:=bP.out _ HE.out.2;have x0:=M.frozen 0;have x1:=M.frozen 1;have x2:=M.frozen 2;have x3:=M.cell 0;have x4:=M.cell 1;have x5:=M.cell 2;have x6:=M.lt;refine⟨_,rfl,fun _=>F,?_⟩;simp only[Act.put,sA,sZ,sC]
  iterate 3
   refine dX (by simp only[acj,aci,ach];rfl) (by rfl) F (by intro w' A;obtain⟨X,Y,Z,z,v,u,t⟩:=A;go_simp;rfl) ?_;simp only[Act.put,sA,sZ,sC]
  refine cB (je (w':=((K.setCell ⟨w.heap.size,0,none⟩ (.int .i64 G)).setCell ⟨w.heap.size,1,none⟩ (.int .i64 H)).setCell ⟨w.heap.size,2,none⟩ (.string I)) (by simp only[acj,aci,ach];rfl) (by rfl) (by go_simp) (fun _=>m) ?_);simp only[Act.put,sA,sZ,sC]
  iterate 1
   refine dX (by simp only[acj,aci,ach];rfl) (by rfl) m (by intro w' A;obtain⟨X,Y,Z,z,v,u,t⟩:=A;go_simp;rfl) ?_;simp only[Act.put,sA,sZ,sC]
  refine kR ?_;clear d k J U F m M x0 x1 x2 x3 x4 x5 x6 vB;go_wp2_with fail
  go_meet
  exact⟨_,rfl,rfl,HE⟩
 obtain⟨g,rfl,rfl,j⟩:=hcut;obtain⟨wo,rfl⟩:∃W:World,W=wc:=⟨_,rfl⟩
 have d0:=j.out.1.cell 0;have d1:=j.out.1.cell 1;have d2:=j.out.1.cell 2;have dl:=j.out.1.lt;have r:CX E.base E.cb w wo:=CX.of_below j.out.2;have V:=HR.out.cx r;have aa:=yX E out wo (HP.out.below j.out.2) HO.out.2.2.2 (aca HO.out.2.2.1 r.size) (n:Int) G H I C.N B V.nd V.bw V.nn i _ HY.out;have BK:=kH aa;have bZ:=kH r;clear aa V r
 cases o with
 | none=>
  have b:ok=false:=HO.out.2.1.symm;subst b;go_wp2_with fail
  go_end0
  exact⟨rfl,by simpa [Tx] using HP.out.below j.out.2,bZ.out⟩
 | some x=>
  have b:ok=true:=HO.out.2.1.symm;subst b;have af:x=(G,H,I):=HO.out.1;subst af;go_wp2_with fail
  refine BK.out.mono ?_;rintro e w4 ⟨rfl,hP,M⟩;have HE:=kH (And.intro hP (bZ.out.trans M));clear hP M;go_wp2_with fail
  go_end0
  exact⟨rfl,HE.out⟩
theorem Ma(ks:List ae)(B A:List Int)(j:Nat)(h:A.length<=j):∀n,j<=n->iH ks B A n=iH ks B A j
 | 0,hn=>by rw[show j=0 by omega]
 | n+1,hn=>by
  by_cases C:j=n+1
  ·rw[C]
  rw[xq,Ma ks B A j h n (by omega)];unfold Fb;rw[List.getElem?_eq_none (l:=A) (i:=n) (by omega)];cases ks[n]? <;>cases B[n]? <;>simp
def oF(z:ae)(m:Nat):ae×Nat:=if z.kind=5 then(kd z 0,m+1) else(z,m)
theorem MG(E:CE)(C:CM)(B:Nat)(out:List bD)(w:World)(h:kD E out w)(hR:RH E C B w)(a6:E.base<=w.heap.size)(n m:Nat)(t z:ae)
 (M:∀(j:Nat) (y:ae),(aM t)[j]? =some y->C.N[n+j]? =some y) (hn:n+aB t<=200000) (av:∀(j:Nat) (y:ae),(aM z)[j]? =some y->C.N[m+j]? =some y) (hm:m+aB z<=200000) (h5:z.kind=5->0<z.kids.length) (hN:out.length+t.kids.length<=1000000):
 Calls Tryz.prog 119 #[.pointer (some ⟨E.cb,0,none⟩),.int .i64 (n:Int),.int .i64 (m:Int)] w fun e w'=>e= .returned (.tuple #[])/\kD E (out++iH t.kids (bR t.kids (n+1)) (bR (oF z m).1.kids ((oF z m).2+1)) t.kids.length) w'/\CX E.base E.cb w w':=by
 have ht:C.N[n]? =some t:=M 0 t (by rw[iK];rfl);have hz:C.N[m]? =some z:=av 0 z (by rw[iK];rfl);obtain⟨L,p,Q9⟩:∃L p,oF z m=(L,p):=⟨_,_,rfl⟩
 have hL:(∀(j:Nat) (y:ae),(aM L)[j]? =some y->C.N[p+j]? =some y)/\p+aB L<=200000/\((z.kind=5/\p=m+1)\/(z.kind≠5/\p=m)):=by
  unfold oF at Q9;by_cases hk:z.kind=5
  ·rw[if_pos hk]at Q9
   cases Q9
   have h0:=h5 hk;refine⟨fun j y hy=>?_,?_,.inl ⟨hk,rfl⟩⟩
   ·have:=kd_at h0 av j y hy
    simpa [aC] using this
   have h1:=dI z.kids 0 _ (gq h0);have h2:=fe z.kids 1;have h3:=eY z;simp only[List.take_zero,aC,Nat.zero_add]at h1;omega
  rw[if_neg hk]at Q9;cases Q9
  exact⟨av,hm,.inr ⟨hk,rfl⟩⟩
 rw[Q9];have an:C.N[p]? =some L:=hL.1 0 L (by rw[iK];rfl);obtain⟨D,F,T,c,hA,bj,g0,g1,g2,g3,g4,-⟩:=kZ hR.nd ht;obtain⟨D7,bu,Z,d,ay,-,z0,z1,z2,z3,z4,-⟩:=kZ hR.nd hz;obtain⟨bt,bx,Y,q,az,-,-,-,-,-,y4,-⟩:=kZ hR.nd an;obtain⟨rfl,rfl⟩:D=D7/\F=bu:=by rw[hA]at ay;simpa using ay
 obtain⟨rfl,rfl⟩:D=bt/\F=bx:=by rw[hA]at az;simpa using az
 have c1:(n:Int)<(E.rn:Int):=by rw[<- hR.nn];have:=(acg.1 ht).1;omega
 have bX:(m:Int)<(E.rn:Int):=by rw[<- hR.nn];have:=(acg.1 hz).1;omega
 have Li:(p:Int)<(E.rn:Int):=by rw[<- hR.nn];have:=(acg.1 an).1;omega
 have ar:D<w.heap.size:=Nat.lt_of_lt_of_le bj hR.bw;obtain⟨H,I,G,tz,A,hk,hx,ha,bo,b5,-⟩:=aW t T c;obtain⟨O,x,V,v,X,b0,bn,aq,bp,bl,-⟩:=aW z Z d;obtain⟨ln, b1⟩:=ag L.kids.length;rw[hk]at g0;rw[hx]at g1;rw[ha]at g2;rw[bo]at g3;rw[b5]at g4;rw[b0]at z0 hL;rw[bn]at z1;rw[aq]at z2;rw[bp]at z3;rw[bl]at z4;rw[b1]at y4;have c8:A<=200000:=by have:=dO t.kids;have:=eY t;omega
 have bM:ln<=200000:=by have:=dO L.kids;have:=eY L;omega
 have bm:∀W al,kD E al W->CX E.base E.cb w W->W.cell? ⟨E.cb,0,none⟩=some (.slice (some ⟨D,F,none⟩) E.rn E.rc)/\(∀o,W.cell? ⟨D,o,none⟩=w.cell? ⟨D,o,none⟩)/\E.cb<W.heap.size/\D<W.heap.size:=fun W al h1 h2=>by
  obtain⟨oA,oc,hC,-⟩:=h1;exact⟨by rw[<- hA];exact hC.cell 0,fun o=>hR.topc h2 hA ar o,hC.lt,Nat.lt_of_lt_of_le ar h2.size⟩
 have bs:=kH bm;have HH:Hid (t.kids.length=A/\L.kids.length=ln/\E.base<=w.heap.size/\n+aB t<=200000/\out.length+t.kids.length<=1000000):=kH ⟨b5,b1,a6,hn,hN⟩;have HL:=kH hL;have HR:=kH hR;have M7:=kH M;have HT:=kH (And.intro ht (And.intro hz an));have HP:=kH h;have HM:Hid (m+aB z<=200000/\(O=5->0<z.kids.length)):=kH ⟨hm,by rw[<- b0];exact h5⟩;have HG:Hid (w.cell? ⟨D,F+n*5+4,none⟩=some (.slice T A c)/\w.cell? ⟨D,F+p*5+4,none⟩=some (.slice Y ln q)):=kH ⟨g4,y4⟩;have lc:E.cb<w.heap.size:=by obtain⟨oA,oc,hC,-⟩:=h;exact hC.lt
 have c0:w.cell? ⟨E.cb,0,none⟩=some (.slice (some ⟨D,F,none⟩) E.rn E.rc):=by obtain⟨oA,oc,hC,-⟩:=h;rw[<- hA];exact hC.cell 0
 have J:Below w.heap.size w ((w.drew.alloc (.cells #[.int .i64 H,.string I,.int .i64 G,.int .i64 tz,.slice T A c] 24)).alloc (.cells #[.int .i64 O,.string x,.int .i64 V,.int .i64 v,.slice Z X d] 24)):=((Below.refl _ _).drew.alloc (ab9 _) _).alloc (by simp) _;clear bm h hR M ht hz b1 hL a6 hn hN bj hA ay az y4 an av hm h5 Q9 hk hx ha bo b5 b0 bn aq bp bl J;go_in
 go_wp2_with fail
 go_cut [6,7] (fun s6 s7 wx=> ∃x1 x2,s6= .pointer (some ⟨x1,0,none⟩)/\s7= .pointer (some ⟨x2,0,none⟩)/\Hid (Below w.heap.size w wx/\ah wx x1 24 #[.int .i64 H,.string I,.int .i64 G,.int .i64 tz,.slice T A c]/\ah wx x2 24 #[.int .i64 O,.string x,.int .i64 V,.int .i64 v,.slice Z X d]/\E.cb≠x1))
 case first=>
  have hd:Below w.heap.size w w.drew:=(Below.refl _ _).drew
  have fE:∀W,Below w.heap.size w W->W.cell? ⟨E.cb,0,none⟩=some (.slice (some ⟨D,F,none⟩) E.rn E.rc)/\W.cell? ⟨D,F+n*5,none⟩=some (.int .i64 H)/\W.cell? ⟨D,F+n*5+1,none⟩=some (.string I)/\W.cell? ⟨D,F+n*5+2,none⟩=some (.int .i64 G)/\W.cell? ⟨D,F+n*5+3,none⟩=some (.int .i64 tz)/\W.cell? ⟨D,F+n*5+4,none⟩=some (.slice T A c)/\W.cell? ⟨D,F+m*5,none⟩=some (.int .i64 O)/\W.cell? ⟨D,F+m*5+1,none⟩=some (.string x)/\W.cell? ⟨D,F+m*5+2,none⟩=some (.int .i64 V)/\W.cell? ⟨D,F+m*5+3,none⟩=some (.int .i64 v)/\W.cell? ⟨D,F+m*5+4,none⟩=some (.slice Z X d):=fun W hb=>by
   have e:∀o,W.cell? ⟨D,o,none⟩=w.cell? ⟨D,o,none⟩:=fun o=>hb.cell (p:=⟨D,o,none⟩) ar
   exact⟨(hb.cell (p:=⟨E.cb,_,none⟩) lc).trans c0,(e _).trans g0,(e _).trans g1,(e _).trans g2,(e _).trans g3,(e _).trans g4,(e _).trans z0,(e _).trans z1,(e _).trans z2,(e _).trans z3,(e _).trans z4⟩
  have aE:=fE _ hd;obtain⟨a1,bG⟩:∃a:Array Value,a= #[.int .i64 H,.string I,.int .i64 G,.int .i64 tz,.slice T A c]:=⟨_,rfl⟩
  obtain⟨a2,aq⟩:∃a:Array Value,a= #[.int .i64 O,.string x,.int .i64 V,.int .i64 v,.slice Z X d]:=⟨_,rfl⟩
  have bd:=kH lc;have bP:=kH fE;clear fE g0 g1 g2 g3 g4 z0 z1 z2 z3 z4 c0 bG aq;refine mO (fun W=>W.cell? ⟨E.cb,0,none⟩=some (.slice (some ⟨D,F,none⟩) E.rn E.rc)/\W.cell? ⟨D,F+n*5,none⟩=some (.int .i64 H)/\W.cell? ⟨D,F+n*5+1,none⟩=some (.string I)/\W.cell? ⟨D,F+n*5+2,none⟩=some (.int .i64 G)/\W.cell? ⟨D,F+n*5+3,none⟩=some (.int .i64 tz)/\W.cell? ⟨D,F+n*5+4,none⟩=some (.slice T A c)/\W.cell? ⟨D,F+m*5,none⟩=some (.int .i64 O)/\W.cell? ⟨D,F+m*5+1,none⟩=some (.string x)/\W.cell? ⟨D,F+m*5+2,none⟩=some (.int .i64 V)/\W.cell? ⟨D,F+m*5+3,none⟩=some (.int .i64 v)/\W.cell? ⟨D,F+m*5+4,none⟩=some (.slice Z X d)) [] (.soft 0 (.soft 1 (.soft 2 (.soft 3 (.soft 4 (.soft 5 (.soft 6 (.soft 7 (.soft 8 (.soft 9 (.soft 10 (.soft 11 (.soft 12 (.soft 13 (.fork 14 (.hard 15 (.hard 16 (.hard 17 .done))) 15 (.hard 14 (.hard 16 (.hard 17 .done)))))))))))))))))) (by kernel_rfl) (by kernel_rfl) rfl (by kernel_rfl) ?_
  iterate 14
   refine dX (by simp only[acj,aci,ach];rfl) (by rfl) aE (by intro w' bB;obtain⟨c2,c4,l,k,c5,c6,c7,uK,I8,xZ,JQ⟩:=bB;go_simp;rfl) ?_;simp only[Act.put,sA,sZ,sC]
  obtain⟨X1, a8⟩:=ag (w.drew.alloc (.cells #[.int .i64 0,.string ⟨#[]⟩,.int .i64 0,.int .i64 0,.slice none 0 0] 24));obtain⟨R, aa⟩:=ag (X1.alloc (.cells #[.int .i64 0,.string ⟨#[]⟩,.int .i64 0,.int .i64 0,.slice none 0 0] 24));have ab:Below w.heap.size w X1:=by rw[<- a8];exact hd.alloc (ab9 _) _
  have J:Below w.heap.size w R:=by rw[<- aa];exact ab.alloc ab.size _
  have ao:=bP.out _ ab;have bN:X1.heap.size=w.heap.size+1:=by rw[<- a8];simp
  have r:ah R w.heap.size 24 #[.int .i64 0,.string ⟨#[]⟩,.int .i64 0,.int .i64 0,.slice none 0 0]:=by rw[<- aa,<- a8];exact(ah.new w.drew _ _).alloc _
  have a7:ah R (w.heap.size+1) 24 #[.int .i64 0,.string ⟨#[]⟩,.int .i64 0,.int .i64 0,.slice none 0 0]:=by rw[<- aa,<- bN];exact ah.new X1 _ _
  refine sN ?_ ?_
  ·refine gY (w':=X1) (by simp only[acj,aci,ach];rfl) (by rfl) (by go_simp;rfl) (fun _=>ao) ?_
   simp only[Act.put,sA,sZ,sC];refine cB (gY (w':=R) (by simp only[acj,aci,ach];rfl) (by rfl) (by go_simp;rfl) (fun _=>bP.out _ J) ?_);simp only[Act.put,sA,sZ,sC];have l:=(kI (w:=R) (g:=w.heap.size) (a:=.int .i64 H) (b:=.string I) (c:=.int .i64 G) (d:=.int .i64 tz) (e:=.slice T A c))
   have u:Below w.heap.size w (fZ R (w.heap.size) (.int .i64 H) (.string I) (.int .i64 G) (.int .i64 tz) (.slice T A c)):=J.trans (ak.toBelow l J.size fun g hg=>by rw[hg];omega);have K:=a7.since l (by omega);have af:=ah.tZ r (.int .i64 H) (.string I) (.int .i64 G) (.int .i64 tz) (.slice T A c);have k:=(kI (w:=fZ R (w.heap.size) (.int .i64 H) (.string I) (.int .i64 G) (.int .i64 tz) (.slice T A c)) (g:=w.heap.size+1) (a:=.int .i64 O) (b:=.string x) (c:=.int .i64 V) (d:=.int .i64 v) (e:=.slice Z X d))
   have U:Below w.heap.size w (fZ (fZ R (w.heap.size) (.int .i64 H) (.string I) (.int .i64 G) (.int .i64 tz) (.slice T A c)) (w.heap.size+1) (.int .i64 O) (.string x) (.int .i64 V) (.int .i64 v) (.slice Z X d)):=u.trans (ak.toBelow k u.size fun g hg=>by rw[hg];omega);have HE:Hid (Below w.heap.size w (fZ (fZ R (w.heap.size) (.int .i64 H) (.string I) (.int .i64 G) (.int .i64 tz) (.slice T A c)) (w.heap.size+1) (.int .i64 O) (.string x) (.int .i64 V) (.int .i64 v) (.slice Z X d))/\ah (fZ (fZ R (w.heap.size) (.int .i64 H) (.string I) (.int .i64 G) (.int .i64 tz) (.slice T A c)) (w.heap.size+1) (.int .i64 O) (.string x) (.int .i64 V) (.int .i64 v) (.slice Z X d)) (w.heap.size) 24 #[.int .i64 H,.string I,.int .i64 G,.int .i64 tz,.slice T A c]/\ah (fZ (fZ R (w.heap.size) (.int .i64 H) (.string I) (.int .i64 G) (.int .i64 tz) (.slice T A c)) (w.heap.size+1) (.int .i64 O) (.string x) (.int .i64 V) (.int .i64 v) (.slice Z X d)) (w.heap.size+1) 24 #[.int .i64 O,.string x,.int .i64 V,.int .i64 v,.slice Z X d]/\E.cb≠w.heap.size):=kH ⟨U,af.since k (by omega),ah.tZ K (.int .i64 O) (.string x) (.int .i64 V) (.int .i64 v) (.slice Z X d),by have:=bd.out;omega⟩;have dQ:=bP.out _ u;have mE:=bP.out _ U;have ru:=kH K;obtain⟨X3, Jd⟩:=ag (fZ R (w.heap.size) (.int .i64 H) (.string I) (.int .i64 G) (.int .i64 tz) (.slice T A c));rw[Jd]at dQ mE K HE;have q0:=r.five;have ql:=r.lt;obtain⟨⟨q0,q1,q2,q3,q4⟩,b6,b7,b8,b9,ba⟩:=q0;clear l u af k U ru;refine cB (je (w':=X3) (by simp only[acj,aci,ach];rfl) (by rfl) (by rw[<- Jd];unfold fZ;go_simp) (fun _=>dQ) ?_);simp only[Act.put,sA,sZ,sC];obtain⟨⟨r0,r1,r2,r3,r4⟩,FD,FC,FB,bb,bc⟩:=K.five;have rl:=K.lt;clear q0 q1 q2 q3 q4 b6 b7 b8 b9 ba ql Jd aa a8 r a7;refine cB (je (w':=fZ X3 (w.heap.size+1) (.int .i64 O) (.string x) (.int .i64 V) (.int .i64 v) (.slice Z X d)) (by simp only[acj,aci,ach];rfl) (by rfl) (by unfold fZ;go_simp) (fun _=>mE) ?_);simp only[Act.put,sA,sZ,sC];refine kR ?_;clear r0 r1 r2 r3 r4 FD FC FB bb bc rl K aE ao dQ mE hd ab J;go_wp2_with fail
   go_meet
   exact⟨_,_,rfl,rfl,HE⟩
  refine gY (w':=X1) (by simp only[acj,aci,ach];rfl) (by rfl) (by go_simp;rfl) (fun _=>ao) ?_;simp only[Act.put,sA,sZ,sC];refine cB (gY (w':=R) (by simp only[acj,aci,ach];rfl) (by rfl) (by go_simp;rfl) (fun _=>bP.out _ J) ?_);simp only[Act.put,sA,sZ,sC];have l:=(kI (w:=R) (g:=w.heap.size+1) (a:=.int .i64 H) (b:=.string I) (c:=.int .i64 G) (d:=.int .i64 tz) (e:=.slice T A c))
  have u:Below w.heap.size w (fZ R (w.heap.size+1) (.int .i64 H) (.string I) (.int .i64 G) (.int .i64 tz) (.slice T A c)):=J.trans (ak.toBelow l J.size fun g hg=>by rw[hg];omega);have K:=r.since l (by omega);have af:=ah.tZ a7 (.int .i64 H) (.string I) (.int .i64 G) (.int .i64 tz) (.slice T A c);have k:=(kI (w:=fZ R (w.heap.size+1) (.int .i64 H) (.string I) (.int .i64 G) (.int .i64 tz) (.slice T A c)) (g:=w.heap.size) (a:=.int .i64 O) (b:=.string x) (c:=.int .i64 V) (d:=.int .i64 v) (e:=.slice Z X d))
  have U:Below w.heap.size w (fZ (fZ R (w.heap.size+1) (.int .i64 H) (.string I) (.int .i64 G) (.int .i64 tz) (.slice T A c)) (w.heap.size) (.int .i64 O) (.string x) (.int .i64 V) (.int .i64 v) (.slice Z X d)):=u.trans (ak.toBelow k u.size fun g hg=>by rw[hg];omega);have HE:Hid (Below w.heap.size w (fZ (fZ R (w.heap.size+1) (.int .i64 H) (.string I) (.int .i64 G) (.int .i64 tz) (.slice T A c)) (w.heap.size) (.int .i64 O) (.string x) (.int .i64 V) (.int .i64 v) (.slice Z X d))/\ah (fZ (fZ R (w.heap.size+1) (.int .i64 H) (.string I) (.int .i64 G) (.int .i64 tz) (.slice T A c)) (w.heap.size) (.int .i64 O) (.string x) (.int .i64 V) (.int .i64 v) (.slice Z X d)) (w.heap.size+1) 24 #[.int .i64 H,.string I,.int .i64 G,.int .i64 tz,.slice T A c]/\ah (fZ (fZ R (w.heap.size+1) (.int .i64 H) (.string I) (.int .i64 G) (.int .i64 tz) (.slice T A c)) (w.heap.size) (.int .i64 O) (.string x) (.int .i64 V) (.int .i64 v) (.slice Z X d)) (w.heap.size) 24 #[.int .i64 O,.string x,.int .i64 V,.int .i64 v,.slice Z X d]/\E.cb≠w.heap.size+1):=kH ⟨U,af.since k (by omega),ah.tZ K (.int .i64 O) (.string x) (.int .i64 V) (.int .i64 v) (.slice Z X d),by have:=bd.out;omega⟩;have dQ:=bP.out _ u;have mE:=bP.out _ U;have ru:=kH K;obtain⟨X3, Jd⟩:=ag (fZ R (w.heap.size+1) (.int .i64 H) (.string I) (.int .i64 G) (.int .i64 tz) (.slice T A c));rw[Jd]at dQ mE K HE;have q0:=a7.five;have ql:=a7.lt;obtain⟨⟨q0,q1,q2,q3,q4⟩,b6,b7,b8,b9,ba⟩:=q0;clear l u af k U ru;refine cB (je (w':=X3) (by simp only[acj,aci,ach];rfl) (by rfl) (by rw[<- Jd];unfold fZ;go_simp) (fun _=>dQ) ?_);simp only[Act.put,sA,sZ,sC];obtain⟨⟨r0,r1,r2,r3,r4⟩,FD,FC,FB,bb,bc⟩:=K.five;have rl:=K.lt;clear q0 q1 q2 q3 q4 b6 b7 b8 b9 ba ql Jd aa a8 r a7;refine cB (je (w':=fZ X3 (w.heap.size) (.int .i64 O) (.string x) (.int .i64 V) (.int .i64 v) (.slice Z X d)) (by simp only[acj,aci,ach];rfl) (by rfl) (by unfold fZ;go_simp) (fun _=>mE) ?_);simp only[Act.put,sA,sZ,sC];refine kR ?_;clear r0 r1 r2 r3 r4 FD FC FB bb bc rl K aE ao dQ mE hd ab J;go_wp2_with fail
  go_meet
  exact⟨_,_,rfl,rfl,HE⟩
 obtain⟨x1,x2,rfl,rfl,HC⟩:=hcut;obtain⟨wo,rfl⟩:∃W:World,W=wc:=⟨_,rfl⟩
 have d0:=HC.out.2.2.1.cell 0;have dl:=HC.out.2.2.1.lt;clear g0 g1 g2 g3 g4 z0 z1 z2 z3 z4 c0 lc ar;have bZ:Hid (CX E.base E.cb w wo/\kD E out wo):=kH ⟨CX.of_below HC.out.1,HP.out.below HC.out.1⟩;go_upto_if 28 with fail
 go_cut [6,7,8] (fun s6 s7 s8 wx=>s6= .pointer (some ⟨x1,0,none⟩)/\s7= .pointer (some ⟨x2,0,none⟩)/\s8= .int .i64 (p:Int)/\Hid (Below wo.heap.size wo wx))
 case first=>
  by_cases h5:O=5
  ·subst h5
   have au:p=m+1:=by rcases HL.out.2.2 with⟨-,h⟩| ⟨h,-⟩ <;>first|exact h|exact absurd rfl h
   go_wp2_with fail
   refine(xS E C B _ _ bZ.out.2 (HR.out.cx bZ.out.1) m 0 z HT.out.2.1 (Nat.zero_le _) HM.out.1).mono ?_;rintro e w2 ⟨rfl,J⟩;have br:=kH J;clear J;have r:((m+1+aC (z.kids.take 0):Nat):Int)=(p:Int):=by rw[au];simp[aC]
   rw[r];clear au r;go_wp2_with fail
   go_meet
   exact⟨rfl,rfl,rfl,br⟩
  have au:p=m:=by rcases HL.out.2.2 with⟨h,-⟩| ⟨-,h⟩ <;>first|exact h|exact absurd h h5
  subst au;go_wp2_with fail
  go_meet
  exact⟨rfl,rfl,rfl,kH (Below.refl _ _)⟩
 obtain⟨rfl,rfl,rfl,HB⟩:=hcut;obtain⟨w3,rfl⟩:∃W:World,W=wc:=⟨_,rfl⟩
 have bI:Hid (CX E.base E.cb w w3/\kD E out w3/\ah w3 x1 24 #[.int .i64 H,.string I,.int .i64 G,.int .i64 tz,.slice T A c]):=kH ⟨bZ.out.1.trans (CX.of_below HB.out),bZ.out.2.below HB.out,HC.out.2.1.below HB.out HC.out.2.1.lt⟩;clear d0 dl;go_wp2_with fail
 go_loopg [9,10] A (fun gk s9 c9 wr=> ∃j:Nat,j+gk=A/\j<=ln/\s9= .int .i64 (j:Int)/\Hid (kD E (out++iH t.kids (bR t.kids (n+1)) (bR L.kids (p+1)) j) wr/\CX E.base E.cb w wr/\ah wr x1 24 #[.int .i64 H,.string I,.int .i64 G,.int .i64 tz,.slice T A c]))
 case atStart=>exact⟨0,by omega,Nat.zero_le _,rfl,kH ⟨by simpa [iH] using bI.out.2.1,bI.out.1,bI.out.2.2⟩⟩
 obtain⟨j,hj,bT,rfl,f⟩:=hrel;obtain⟨c0,ce,l0,l1⟩:=bs.out wr _ f.out.1 f.out.2.1;have e4:=f.out.2.2.cell 4;have el:=f.out.2.2.lt;have y4:wr.cell? ⟨D,F+p*5+4,none⟩=some (.slice Y ln q):=(ce _).trans HG.out.2;clear ce;by_cases b2:j<A
 ·have b3:(j:Int)<(A:Int):=by omega
  by_cases b4:j<ln
  ·have O5:(j:Int)<(ln:Int):=by omega
   have T9:IntKind.i64.wrap ((j:Int)+1)=(j:Int)+1:=IntWalk.i64_in _ (by omega);go_wp2_with fail
   refine(xS E C B _ _ f.out.1 (HR.out.cx f.out.2.1) n j t HT.out.1 (by rw[HH.out.1];omega) HH.out.2.2.2.1).mono ?_;rintro e w4 ⟨rfl,U⟩;have Al:=kH U;clear U c0 e4 el y4 l0 l1;obtain⟨a, ha⟩:=ag (n+1+aC (t.kids.take j));rw[ha];have HA:=kH ha;have xA:Hid (CX E.base E.cb w w4):=kH (f.out.2.1.trans (CX.of_below Al.out));clear ha;go_wp2_with fail
   refine(xS E C B _ _ (f.out.1.below Al.out) (HR.out.cx xA.out) p j L HT.out.2.2 (by rw[HH.out.2.1];omega) HL.out.2.1).mono ?_;rintro e w5 ⟨rfl,bh⟩;obtain⟨b, hb⟩:=ag (p+1+aC (L.kids.take j));rw[hb];have Wv:=Al.out.trans (bh.mono Al.out.size);have ax:CX E.base E.cb w w5:=f.out.2.1.trans (CX.of_below Wv);have M:=DJ (by rw[HH.out.1];exact b2) M7.out;rw[HA.out]at M;have aw:=HR.out.cx ax
   have ad:(out++iH t.kids (bR t.kids (n+1)) (bR L.kids (p+1)) j).length<=1000000:=by
    have:=HH.out.2.2.2.2;have:=qY t.kids (bR t.kids (n+1)) (bR L.kids (p+1)) j;have:=HH.out.1;rw[acm];omega
   have bk:=Eu E _ w5 (f.out.1.below Wv) ad (aca HH.out.2.2.1 ax.size) (a:Int) (b:Int) C.N B aw.nd aw.bw aw.nn a _ M;have BK:=kH bk;have Oz:Hid (CX E.base E.cb w w5/\p+1+aC (L.kids.take j)=b/\ah w5 x1 24 #[.int .i64 H,.string I,.int .i64 G,.int .i64 tz,.slice T A c]):=kH ⟨ax,hb,f.out.2.2.below Wv f.out.2.2.lt⟩;clear bh Wv ax M aw ad bk hb;go_wp2_with fail
   refine BK.out.mono ?_;rintro e w6 ⟨rfl,hP,hX⟩
   have HE:Hid (kD E (out++iH t.kids (bR t.kids (n+1)) (bR L.kids (p+1)) (j+1)) w6/\CX E.base E.cb w w6/\ah w6 x1 24 #[.int .i64 H,.string I,.int .i64 G,.int .i64 tz,.slice T A c]):=kH ⟨by
    rw[xq,<- List.append_assoc]
    have e1:Fb t.kids (bR t.kids (n+1)) (bR L.kids (p+1)) j=[⟨1,(a:Int),(b:Int),0,0,⟨#[]⟩,(kd t j).at_,(kd t j).end_⟩]:=by
     unfold Fb;rw[gq (by rw[HH.out.1];exact b2),yZ (by rw[HH.out.1];exact b2),yZ (by rw[HH.out.2.1];exact b4),HA.out,Oz.out.2.1]
    rw[e1]
    exact hP,Oz.out.1.trans hX,hX.blk Oz.out.2.2 (by decide) HC.out.2.2.2.symm⟩
   clear hP hX;go_wp2_with fail
   go_roundg (gk - 1)
   case measure=>omega
   exact⟨j+1,by omega,by omega,by simp,HE⟩
  have O5:¬(j:Int)<(ln:Int):=by omega
  have HS:Hid (iH t.kids (bR t.kids (n+1)) (bR L.kids (p+1)) t.kids.length=iH t.kids (bR t.kids (n+1)) (bR L.kids (p+1)) j):=kH (Ma _ _ _ _ (by rw[yY,HH.out.2.1];omega) _ (by rw[HH.out.1];omega));go_wp2_with fail
  go_end0
  exact⟨rfl,by rw[HS.out];exact f.out.1,f.out.2.1⟩
 have b3:¬(j:Int)<(A:Int):=by omega
 have sW:j=A:=by omega
 have HS:Hid (j=t.kids.length):=kH (by rw[HH.out.1,sW]);clear sW;go_wp2_with fail
 go_end0
 exact⟨rfl,by rw[<- HS.out];exact f.out.1,f.out.2.1⟩
def wZ:List ByteArray:=[⟨#[43]⟩,⟨#[45]⟩,⟨#[42]⟩,⟨#[47]⟩,⟨#[37]⟩]
theorem Zf{x:ByteArray}(h:jw sj x=true):
 ((fP x [97,110,100] || fP x [111,114])=true->fH wZ x=false)/\((fP x [61,61] || fP x [33,61])=true->fH wZ x=false) /\
 (fP x [97,110,100]=false->fP x [111,114]=false->fP x [61,61]=false->fP x [33,61]=false->fH wZ x= !(fP x [60] || fP x [60,61] || fP x [62] || fP x [62,61])):=by
 obtain⟨b,B,C⟩:=List.any_eq_true.1 (show sj.any (fun b=>b.toList==x.toList)=true from h);have A:x.toList=b.toList:=(eq_of_beq C).symm;have E:∀l,fP x l=(b.data.toList==l):=fun l=>by unfold fP;rw[A,ByteArray.toList_eq]
 have D:fH wZ x=wZ.any fun c=>c.data.toList==b.data.toList:=by unfold fH;rw[A];simp only[ByteArray.toList_eq]
 rw[D];simp only[E];clear E D C A h;simp only[sj,List.mem_cons,List.not_mem_nil,or_false]at B;rcases B with rfl|rfl|rfl|rfl|rfl|rfl|rfl|rfl|rfl|rfl|rfl|rfl|rfl
 all_goals exact⟨by decide,by decide,by decide⟩
def rM(t:ae)(n:Nat):List bD:=
 if (fP t.text [97,110,100] || fP t.text [111,114])=true then nA t n 2
 else if (fP t.text [61,61] || fP t.text [33,61])=true then [j4 (nk t n 0) (nk t n 1) t,gL (nk t n 0) 6 (kd t 0)]
 else nA t n 1
theorem binC_eq{t:ae}(h:jw sj t.text=true)(n:Nat):BF t n=rM t n++[gL n (if fH wZ t.text=true then 1 else 2) t]:=by
 obtain⟨A,B,C⟩:=Zf h;unfold BF rM;by_cases a:(fP t.text [97,110,100] || fP t.text [111,114])=true
 ·rw[if_pos a,if_pos a,A a]
  rfl
 rw[if_neg a,if_neg a];by_cases b:(fP t.text [61,61] || fP t.text [33,61])=true
 ·rw[if_pos b,if_pos b,B b]
  rfl
 rw[if_neg b,if_neg b];simp only[Bool.or_eq_true,not_or,Bool.not_eq_true]at a b;rw[C a.1 a.2 b.1 b.2];cases fP t.text [60] || fP t.text [60,61] || fP t.text [62] || fP t.text [62,61]<;>rfl
theorem Rx{t:ae}(A:t.kids.length=2)(n:Nat):(rM t n).length<=2:=by
 unfold rM;split
 ·simp[nA,A]
 split<;>simp[nA,A]
theorem SN(E:CE)(C:CM)(B:Nat)(out:List bD)(w:World)(h:kD E out w)(r:RH E C B w)(J:E.base<=w.heap.size)(n:Nat)(t:ae)
 (A:∀(j:Nat) (y:ae),(aM t)[j]? =some y->C.N[n+j]? =some y) (hn:n+aB t<=200000) (h2:t.kids.length=2) (hx:jw sj t.text=true) (hN:out.length+4<=1000000):
 Calls Tryz.prog 122 #[.pointer (some ⟨E.cb,0,none⟩),.int .i64 (n:Int)] w fun e w'=>e= .returned (.tuple #[])/\kD E (out++BF t n) w'/\CX E.base E.cb w w':=by
 rw[binC_eq hx,<- List.append_assoc];have ht:C.N[n]? =some t:=A 0 t (by rw[iK];rfl);obtain⟨gb,go,T,c,hA,l,-,g1,-,-,-,-⟩:=kZ r.nd ht;have b:(n:Int)<(E.rn:Int):=by rw[<- r.nn];have:=(acg.1 ht).1;omega
 have g:gb<w.heap.size:=Nat.lt_of_lt_of_le l r.bw;have c0:w.cell? ⟨E.cb,0,none⟩=some (.slice (some ⟨gb,go,none⟩) E.rn E.rc):=by obtain⟨oA,oc,hC,-⟩:=h;rw[<- hA];exact hC.cell 0
 have lc:E.cb<w.heap.size:=by obtain⟨oA,oc,hC,-⟩:=h;exact hC.lt
 obtain⟨x, FN⟩:=ag t.text;rw[FN]at g1;obtain⟨a1, a8⟩:=ag ((x.toList==[97,110,100]));obtain⟨a2, aa⟩:=ag ((x.toList==[111,114]));obtain⟨a3, ab⟩:=ag ((x.toList==[61,61]));obtain⟨a4, ad⟩:=ag ((x.toList==[33,61]))
 have m:rM t n=if (a1 || a2)=true then nA t n 2 else if (a3 || a4)=true then [j4 (nk t n 0) (nk t n 1) t,gL (nk t n 0) 6 (kd t 0)] else nA t n 1:=by
  unfold rM fP;rw[FN,a8,aa,ab,ad]
 obtain⟨h5, V⟩:=ag (fH wZ t.text);rw[V];have D:Hid (t.kids.length=2/\E.base<=w.heap.size/\n+aB t<=200000/\out.length+4<=1000000/\fH wZ x=h5):=kH ⟨h2,J,hn,hN,by rw[<- FN];exact V⟩;have tO:=kH m;have u:=kH r;have M7:=kH A;have HT:=kH ht;have HP:=kH h;clear h r A ht J hn hN l hA hx FN h2 m V;go_in
 go_upto_block 0 with fail
 go_cut [] (fun wx=>Hid (kD E (out++rM t n) wx/\CX E.base E.cb w wx))
 case first=>
  have a6:∀k,Calls Tryz.prog 121 #[.pointer (some ⟨E.cb,0,none⟩),.int .i64 (n:Int),.int .i64 k] w fun e w'=>e= .returned (.tuple #[])/\kD E (out++nA t n k) w'/\CX E.base E.cb w w':=fun k=>Fz E C B out w HP.out u.out D.out.2.1 n t M7.out D.out.2.2.1 (by rw[D.out.1];have:=D.out.2.2.2.1;omega) k
  have a7:=kH a6;clear a6;cases a1<;>cases a2<;>cases a3<;>cases a4
  all_goals
   go_wp2_with fail
  all_goals
   first
    | (refine(a7.out _).mono ?_
       rintro e w2 ⟨rfl,H,I⟩;have z:Hid (kD E (out++rM t n) w2/\CX E.base E.cb w w2):=kH ⟨by rw[tO.out];exact H,I⟩;clear H I;go_wp2_with fail
       go_meet
       exact z)
    | skip
  all_goals
   have hk:=fun(i:Nat) (hi:i<2) (W:World) (o:List bD) (hp:kD E o W) (hx:CX E.base E.cb w W)=>xS E C B o W hp (u.out.cx hx) n i t HT.out (by rw[D.out.1];omega) D.out.2.2.1
   have HK:=kH hk;clear hk;refine(HK.out 0 (by omega) _ _ HP.out (CX.refl _ _ _)).mono ?_;rintro e w2 ⟨rfl,O⟩;have gP:Hid (kD E out w2/\CX E.base E.cb w w2):=kH ⟨HP.out.below O,CX.of_below O⟩;obtain⟨k0, X⟩:=ag (n+1+aC (t.kids.take 0));obtain⟨k1, f⟩:=ag (n+1+aC (t.kids.take 1));rw[X];have G:=kH (And.intro X f);clear O X f g1 c0 lc g b;go_wp2_with fail
   refine(HK.out 1 (by omega) _ _ gP.out.1 gP.out.2).mono ?_;rintro e Y ⟨rfl,R⟩;rw[G.out.2];have bI:Hid (kD E out Y/\CX E.base E.cb w Y):=kH ⟨gP.out.1.below R,gP.out.2.trans (CX.of_below R)⟩;have L:=u.out.cx bI.out.2;have K:=Eu E out Y bI.out.1 (by have:=D.out.2.2.2.1;omega) (aca D.out.2.1 bI.out.2.size) (k0:Int) (k1:Int) C.N B L.nd L.bw L.nn n _ HT.out;have BK:=kH K;clear R K L;go_wp2_with fail
   refine BK.out.mono ?_;rintro e w4 ⟨rfl,H,I⟩;have Z:=kH (And.intro H (bI.out.2.trans I));clear H I;go_wp2_with fail
   refine(HK.out 0 (by omega) _ _ Z.out.1 Z.out.2).mono ?_;rintro e w5 ⟨rfl,U⟩;rw[G.out.1];have qp:=kH (And.intro (Z.out.1.below U) (Z.out.2.trans (CX.of_below U)));clear U;go_wp2_with fail
   refine(yK 6 _).mono ?_;rintro e w6 ⟨rfl,F⟩;have M:=kH (And.intro (qp.out.1.below F) (qp.out.2.trans (CX.of_below F)));clear F;go_wp2_with fail
   refine(HK.out 0 (by omega) _ _ M.out.1 M.out.2).mono ?_;rintro e w7 ⟨rfl,jP⟩;rw[G.out.1];have F5:=kH (And.intro (M.out.1.below jP) (M.out.2.trans (CX.of_below jP)));have DR:=u.out.cx F5.out.2;have A:=DJ (i:=0) (by rw[D.out.1];omega) M7.out;rw[G.out.1]at A;have K:=yX E _ w7 F5.out.1 (by have:=D.out.2.2.2.1;rw[acm];simp;omega) (aca D.out.2.1 F5.out.2.size) (k0:Int) 6 0 ⟨#[]⟩ C.N B DR.nd DR.bw DR.nn k0 _ A;have v:=kH K;clear jP K DR A;go_wp2_with fail
   refine v.out.mono ?_;rintro e w8 ⟨rfl,H,I⟩
   have z:Hid (kD E (out++rM t n) w8/\CX E.base E.cb w w8):=kH ⟨by
    rw[tO.out,KU (by rw[D.out.1];omega),KU (by rw[D.out.1];omega),G.out.1,G.out.2];rw[List.append_assoc]at H
    exact H,F5.out.2.trans I⟩
   clear H I;go_wp2_with fail
   go_meet
   exact z
 have HQ:=hcut;obtain⟨Y,rfl⟩:∃W:World,W=wc:=⟨_,rfl⟩
 clear hcut g1 c0 lc g b;go_wp2_with fail
 refine(AY (some ⟨Y.heap.size,0,none⟩) 5 5 wZ x _ (yV Y 9 wZ) rfl (by omega)).mono ?_;rintro e w4 ⟨rfl,q⟩;rw[D.out.2.2.2.2]
 have Z:Hid (kD E (out++rM t n) w4/\CX E.base E.cb w w4):=kH (by
  have hb:=(ai Y (.cells (wZ.map fun i=>Value.string i).toArray 9)).trans (q.mono (ai _ _).size)
  exact⟨HQ.out.1.below hb,HQ.out.2.trans (CX.of_below hb)⟩)
 clear q;cases h5
 all_goals
  go_wp2_with fail
  refine(yK _ _).mono ?_;rintro e w6 ⟨rfl,F⟩;have M:=kH (And.intro (Z.out.1.below F) (Z.out.2.trans (CX.of_below F)));have wP:=u.out.cx M.out.2;have d:(out++rM t n).length<=1000000:=by have:=Rx D.out.1 n;have:=D.out.2.2.2.1;rw[acm];omega
  have BK:=kH fun k=>yX E _ w6 M.out.1 d (aca D.out.2.1 M.out.2.size) (n:Int) k 0 ⟨#[]⟩ C.N B wP.nd wP.bw wP.nn n _ HT.out
  clear F wP d;go_wp2_with fail
  refine(BK.out _).mono ?_;rintro e w8 ⟨rfl,H,I⟩;have z:=kH (And.intro H (M.out.2.trans I));clear H I;go_wp2_with fail
  go_end0
  exact⟨rfl,by have h9:=z.out.1;rw[List.append_assoc]at h9;exact h9,z.out.2⟩
end Go.Proofs.YtoepemlnlpamlaaGreat
