/- The law NamesVisibleAt holds where what it reads is of bulk at most 1048576: it returns true, and its arguments read as before. Part 41: ShpA ShpB ShpC ShpD ShpE Rs1 Fre1. -/
import Derived.Test.YtoepemlnlpamlaaGreatVisa13
import Derived.Test.YtoepemlnlpamlaaGreatVisa17
import Derived.Test.YtoepemlnlpamlaaGreatVisa22
import Derived.Test.YtoepemlnlpamlaaGreatVisa32
import Derived.Test.YtoepemlnlpamlaaGreatVisa35
import Derived.Test.YtoepemlnlpamlaaGreatVisa40
set_option maxRecDepth 100000
set_option maxHeartbeats 4000000
namespace Go.Proofs.YtoepemlnlpamlaaGreat
open Go.RowKit
theorem x_lits(x:ByteArray):(x=⟨#[105,110,116]⟩/\dM x=true)\/(x=⟨#[98,111,111,108]⟩/\dM x=true)\/((x.toList==[105,110,116])=false/\(x.toList==[98,111,111,108])=false/\dM x=false):=by
 by_cases A:x=⟨#[105,110,116]⟩
 ·exact .inl ⟨A,by rw[A];decide⟩
 ·by_cases B:x=⟨#[98,111,111,108]⟩
  ·exact .inr (.inl ⟨B,by rw[B];decide⟩)
  ·refine .inr (.inr ⟨?_,?_,?_⟩)
   ·rw[beq_eq_false_iff_ne];exact fun h=>A (mY (by rw[<- ByteArray.toList_eq,h]))
   ·rw[beq_eq_false_iff_ne];exact fun h=>B (mY (by rw[<- ByteArray.toList_eq,h]))
   ·unfold dM;rw[decide_eq_false A,decide_eq_false B];rfl
theorem kq(k c:Int):k=c\/(k≠c/\(k==c)=false):=by
 by_cases h:k=c
 ·exact .inl h
 ·exact .inr ⟨h,by simpa using h⟩
theorem iq(i c:Nat)(C:Int)(B:(c:Int)=C):i=c\/(i≠c/\¬(i:Int)=C/\((i:Int)==C)=false):=by
 by_cases h:i=c
 ·exact .inl h
 ·have A:¬(i:Int)=C:=by omega
  exact .inr ⟨h,A,by simpa using A⟩
theorem jq(i c:Nat)(C:Int)(A:(c:Int)=C):(i<c/\(i:Int)<C)\/(¬i<c/\¬(i:Int)<C):=by omega
theorem bq(b:Bool):b=true\/b=false:=by cases b<;>simp
theorem kid_any(K:Int)(i:Nat)(hi:i<=1000000)(t:ae)(At:Option Addr)(ct:Nat)(w:World)(h0:0<=K)(CO:K<=29)(h1:K≠1):
 Calls Tryz.prog 154 #[.int .i64 K,.int .i64 (i:Int),aZ t At ct] w fun e w'=>e= .returned (.bool (kV K i t.kind t.text))/\Below w.heap.size w w':=by
 obtain⟨k,x,a,z,m,hk,hx,-,-,-,hv⟩:=dR t At ct;rw[hv,hk,hx];clear hv hk hx;obtain⟨T,hT⟩:∃b,dC k=b:=⟨_,rfl⟩
 obtain⟨X,hX⟩:∃b,aQ k=b:=⟨_,rfl⟩
 obtain⟨L,hL⟩:∃b,jv k=b:=⟨_,rfl⟩
 obtain⟨S,hS⟩:∃b,ll k=b:=⟨_,rfl⟩
 have HT:=kH (fun W:World=>RType_any k W);have HX:=kH (fun W:World=>RExpr_any k W);have HL:=kH (fun W:World=>YA k W);have HS:=kH (fun W:World=>RStmt_any k W);rw[hT]at HT;rw[hX]at HX;rw[hL]at HL;rw[hS]at HS;have HB:Hid (Below w.heap.size w (w.alloc (.cells #[.int .i64 k,.string x,.int .i64 a,.int .i64 z,.slice At m ct] 24))):=kH (ag _ _);have hc:K=0\/K=2\/K=3\/K=4\/K=5\/K=6\/K=7\/K=8\/K=9\/K=10\/K=11\/K=12\/K=13\/K=14\/K=15\/K=16\/K=17\/K=18\/K=19\/K=20\/K=21\/K=22\/K=23\/K=24\/K=25\/K=26\/K=27\/K=28\/K=29:=by omega
 clear h0 CO h1;rcases hc with rfl|rfl|rfl|rfl|rfl|rfl|rfl|rfl|rfl|rfl|rfl|rfl|rfl|rfl|rfl|rfl|rfl|rfl|rfl|rfl|rfl|rfl|rfl|rfl|rfl|rfl|rfl|rfl|rfl
 obtain rfl|rfl:=bq X
 rotate_left
 rotate_left
 rcases kq k 3 with rfl| ⟨hk3,hb3⟩
 rotate_left
 rcases kq k 5 with rfl| ⟨hk5,hb5⟩
 rotate_left
 rotate_left
 rcases kq k 4 with rfl| ⟨hk4,hb4⟩
 rotate_left
 rotate_left
 rcases kq k 9 with rfl| ⟨wU,eP⟩
 rcases x_lits x with⟨rfl,hs⟩| ⟨rfl,hs⟩| ⟨g1,g2,hs⟩
 rotate_left
 rotate_left
 rotate_left
 rotate_left
 rcases iq i 0 0 rfl with rfl| ⟨hi0,ha0,hc0⟩
 rcases kq k 6 with rfl| ⟨ZR,hb6⟩
 rotate_left
 rotate_left
 rcases iq i 1 1 rfl with rfl| ⟨hi1,ha1,hc1⟩
 obtain rfl|rfl:=bq T
 rotate_left
 rcases kq k 0 with rfl| ⟨hk0,hb0⟩
 rotate_left
 rotate_left
 rcases iq i 2 2 rfl with rfl| ⟨hi2,ha2,hc2⟩
 rcases kq k 11 with rfl| ⟨KJ,il⟩
 rotate_left
 rotate_left
 rotate_left
 rcases kq k 7 with rfl| ⟨hk7,dF⟩
 rotate_left
 rcases kq k 8 with rfl| ⟨BG,dU⟩
 rotate_left
 rotate_left
 obtain rfl|rfl:=bq T
 rotate_left
 rcases kq k 0 with rfl| ⟨hk0,hb0⟩
 rotate_left
 rotate_left
 obtain rfl|rfl:=bq T
 rotate_left
 rcases kq k 0 with rfl| ⟨hk0,hb0⟩
 rotate_left
 rotate_left
 obtain rfl|rfl:=bq X
 rotate_left
 rotate_left
 obtain rfl|rfl:=bq X
 rotate_left
 rotate_left
 obtain rfl|rfl:=bq S
 rotate_left
 rotate_left
 rcases iq i 0 0 rfl with rfl| ⟨hi0,ha0,hc0⟩
 obtain rfl|rfl:=bq T
 rotate_left
 rcases kq k 0 with rfl| ⟨hk0,hb0⟩
 rotate_left
 rotate_left
 rcases iq i 1 1 rfl with rfl| ⟨hi1,ha1,hc1⟩
 obtain rfl|rfl:=bq X
 rotate_left
 rotate_left
 rotate_left
 rcases iq i 0 0 rfl with rfl| ⟨hi0,ha0,hc0⟩
 obtain rfl|rfl:=bq L
 rotate_left
 rotate_left
 rcases iq i 1 1 rfl with rfl| ⟨hi1,ha1,hc1⟩
 obtain rfl|rfl:=bq X
 rotate_left
 rotate_left
 rotate_left
 rcases iq i 0 0 rfl with rfl| ⟨hi0,ha0,hc0⟩
 obtain rfl|rfl:=bq X
 rotate_left
 rotate_left
 rcases iq i 1 1 rfl with rfl| ⟨hi1,ha1,hc1⟩
 rcases kq k 11 with rfl| ⟨KJ,il⟩
 rotate_left
 rotate_left
 rcases iq i 2 2 rfl with rfl| ⟨hi2,ha2,hc2⟩
 rcases kq k 11 with rfl| ⟨KJ,il⟩
 rotate_left
 rcases kq k 14 with rfl| ⟨Ya,cO⟩
 rotate_left
 rcases kq k 0 with rfl| ⟨hk0,hb0⟩
 rotate_left
 rotate_left
 rotate_left
 rcases iq i 0 0 rfl with rfl| ⟨hi0,ha0,hc0⟩
 obtain rfl|rfl:=bq X
 rotate_left
 rotate_left
 rcases iq i 1 1 rfl with rfl| ⟨hi1,ha1,hc1⟩
 rcases kq k 11 with rfl| ⟨KJ,il⟩
 rotate_left
 rotate_left
 rotate_left
 rcases jq i 2 2 rfl with⟨hj,hk⟩| ⟨hj,hk⟩
 obtain rfl|rfl:=bq X
 rotate_left
 rotate_left
 rcases iq i 2 2 rfl with rfl| ⟨hi2,ha2,hc2⟩
 rcases kq k 11 with rfl| ⟨KJ,il⟩
 rotate_left
 rotate_left
 rotate_left
 obtain rfl|rfl:=bq X
 rotate_left
 rcases kq k 0 with rfl| ⟨hk0,hb0⟩
 rotate_left
 rotate_left
 obtain rfl|rfl:=bq X
 rotate_left
 rotate_left
 obtain rfl|rfl:=bq X
 rotate_left
 rotate_left
 obtain rfl|rfl:=bq X
 rotate_left
 rotate_left
 rcases iq i 0 0 rfl with rfl| ⟨hi0,ha0,hc0⟩
 rcases kq k 20 with rfl| ⟨EO,hb20⟩
 rotate_left
 rotate_left
 rcases iq i 1 1 rfl with rfl| ⟨hi1,ha1,hc1⟩
 obtain rfl|rfl:=bq X
 rotate_left
 rotate_left
 rotate_left
 rcases kq k 20 with rfl| ⟨EO,hb20⟩
 rotate_left
 rotate_left
 rcases kq k 20 with rfl| ⟨EO,hb20⟩
 rotate_left
 rotate_left
 obtain rfl|rfl:=bq X
 rotate_left
 rotate_left
 obtain rfl|rfl:=bq X
 rotate_left
 rotate_left
 obtain rfl|rfl:=bq X
 rotate_left
 rotate_left
 obtain rfl|rfl:=bq X
 rotate_left
 rotate_left
 obtain rfl|rfl:=bq X
 rotate_left
 rotate_left
 obtain rfl|rfl:=bq X
 rotate_left
 rotate_left
 all_goals
  go_in
  go_wp2_with (first|(go_at_call 206;refine(HT.out _).mono ?_;rintro e w' ⟨rfl,rfl⟩)|(go_at_call 207;refine(HX.out _).mono ?_;rintro e w' ⟨rfl,rfl⟩)|(go_at_call 208;refine(HL.out _).mono ?_;rintro e w' ⟨rfl,rfl⟩)|(go_at_call 26;refine(HS.out _).mono ?_;rintro e w' ⟨rfl,rfl⟩))
  go_ret
  exact⟨by first|(simp[kV, *];done)|(simp[kV, *];omega),HB.out⟩
theorem Name_any(s:ByteArray)(w:World):Calls Tryz.prog 204 #[.string s] w fun e w'=>e= .returned (.bool (rE s.data.toList))/\Below w.heap.size w w':=by
 by_cases H:s.size<1
 ·have I:(s.size:Int)<1:=by omega
  have B:rE s.data.toList=false:=by unfold rE;rw[bQ,decide_eq_false (p:=1<=s.size) (by omega)];rfl
  rw[B];clear H B;go_in
  go_wp2_with fail
  go_ret
  exact⟨rfl,Below.refl _ _⟩
 have I:¬(s.size:Int)<1:=by omega
 by_cases D:16<s.size
 ·have E:(16:Int)<(s.size:Int):=by omega
  have B:rE s.data.toList=false:=by unfold rE;rw[bQ,decide_eq_false (p:=s.size<=16) (by omega)];simp
  rw[B];clear H B D;go_in
  go_wp2_with fail
  go_ret
  exact⟨rfl,Below.refl _ _⟩
 have E:¬(16:Int)<(s.size:Int):=by omega
 have F:0<s.size:=by omega
 have T:(0:Int)<(s.size:Int):=by omega
 obtain⟨G,C⟩:∃b,kI (bz s.data.toList 0)=b:=⟨_,rfl⟩
 obtain⟨O,A⟩:∃b,Jm s.data.toList=b:=⟨_,rfl⟩
 obtain⟨k,n,N⟩:∃k n,gM s.data.toList 0=(k,n):=⟨_,_,rfl⟩
 have B:rE s.data.toList=(G&& !O&&decide (n=s.size)):=by
  unfold rE;rw[bQ,C,A,N,decide_eq_true (p:=1<=s.size) (by omega),decide_eq_true (p:=s.size<=16) (by omega)];cases G<;>simp
 rw[B];have L:=lL (s[0]'F).toNat;rw[nP s 0 F,C,<- nP s 0 F]at L;have K:=JG s;rw[A]at K
 have P:∀W,Calls Tryz.prog 180 #[.string s,.int .i64 0] W fun e w'=>e= .returned (.tuple #[.int .i64 (k:Int),.int .i64 (n:Int)])/\Below W.heap.size W w':=fun W=>by
  have:=Om s 0 W F (by omega);rw[N]at this;exact this
 have R:=kH L;have Q:=kH K;have S:=kH P;clear B C A N L K P D H;go_in
 go_wp2_with fail
 refine(R.out w).mono ?_;rintro e w' ⟨rfl,rfl⟩;cases G
 ·go_wp2_with fail
  go_ret
  exact⟨rfl,Below.refl _ _⟩
 go_wp2_with fail
 refine(Q.out w).mono ?_;rintro e w1 ⟨rfl,J⟩;cases O
 case true=>
  go_wp2_with fail
  go_ret
  exact⟨rfl,J⟩
 go_wp2_with fail
 refine(S.out w1).mono ?_;rintro e U ⟨rfl,A⟩;go_wp2_with fail
 go_ret
 refine⟨bH ?_,J.trans (A.mono J.size)⟩;rw[Bool.eq_iff_iff];simp;omega
theorem YB(s:ByteArray)(w:World):Calls Tryz.prog 132 #[.string s] w fun e w'=>e= .returned (.tuple #[.int .i64 (((fV s.data.toList).getD 0:Nat):Int),.bool (fV s.data.toList).isSome])/\w=w':=by
 by_cases C:9<s.size
 ·have B:¬(s.size:Int)<1:=by omega
  have D:(9:Int)<s.size:=by omega
  have A:fV s.data.toList=none:=by unfold fV;rw[bQ,if_pos (.inr C)]
  rw[A];clear A;go_in
  go_wp2_with fail
  go_ret2
  exact⟨rfl,rfl⟩
 ·exact Nj s w (by omega)
theorem Xt(s:ByteArray)(w:World):Calls Tryz.prog 205 #[.string s] w fun e w'=>e= .returned (.bool (jk s))/\w=w':=by
 have H:=YB s w;obtain⟨m,J⟩:∃m,(fV s.data.toList).getD 0=m:=⟨_,rfl⟩
 obtain⟨I,A⟩:∃b,(fV s.data.toList).isSome=b:=⟨_,rfl⟩
 rw[A,J]at H
 have F:I=true->0<s.size:=by
  intro h;rw[h]at A;unfold fV at A;split at A
  ·cases A
  ·rename_i h2
   rw[bQ]at h2;omega
 have G:=kH H;have D:=kH A;have L:=kH F;clear H A F J;cases I
 ·have C:jk s=false:=by unfold jk;rw[D.out];rfl
  rw[C];clear C;go_in
  go_wp2_with fail
  refine G.out.mono ?_;rintro e w1 ⟨rfl,rfl⟩;go_wp2_with fail
  go_ret
  exact⟨rfl,rfl⟩
 ·have F:=L.out rfl
  have O:(0:Int)<(s.size:Int):=by omega
  by_cases B:s=⟨#[48]⟩
  ·subst B
   have C:jk ⟨#[48]⟩=true:=by decide
   rw[C];clear C;go_in
   go_wp2_with fail
   refine G.out.mono ?_;rintro e w1 ⟨rfl,rfl⟩;go_wp2_with fail
   go_ret
   exact⟨rfl,rfl⟩
  ·have N:(s.data.toList==[48])=false:=by
    rw[Bool.eq_false_iff];intro h;apply B
    obtain⟨⟨l⟩⟩:=s;simp at h;rw[h]
   have K:(s.toList==[48])=false:=by rw[ByteArray.toList_eq];exact N
   have C:jk s=decide (bz s.data.toList 0≠48):=by unfold jk;rw[D.out,decide_eq_false B];simp
   rw[C];have E:=nP s 0 F;rw[<- E];clear C B E;go_in
   go_wp2_with fail
   refine G.out.mono ?_;rintro e w1 ⟨rfl,rfl⟩;go_wp2_with fail
   go_ret
   exact⟨bH (by rw[Bool.eq_iff_iff];simp;omega),rfl⟩
theorem Qg(a b:Array UInt8)(C lb:List UInt8)(D:a.toList=C)(E:b.toList=lb)(x:ByteArray):x=⟨a⟩\/x=⟨b⟩\/((x.toList==C)=false/\(x.toList==lb)=false/\x≠⟨a⟩/\x≠⟨b⟩):=by
 by_cases A:x=⟨a⟩
 ·exact .inl A
 ·by_cases B:x=⟨b⟩
  ·exact .inr (.inl B)
  ·refine .inr (.inr ⟨?_,?_,A,B⟩)
   ·rw[beq_eq_false_iff_ne];exact fun h=>A (mY (by rw[<- ByteArray.toList_eq,h,<- D]))
   ·rw[beq_eq_false_iff_ne];exact fun h=>B (mY (by rw[<- ByteArray.toList_eq,h,<- E]))
theorem lits0(x:ByteArray):x=⟨#[]⟩\/(x.toList.isEmpty=false/\(x.toList==[])=false/\x≠⟨#[]⟩):=by
 rcases Qg #[] #[] [] [] rfl rfl x with h|h| ⟨h,-,A,-⟩
 ·exact .inl h
 ·exact .inl h
 ·refine .inr ⟨?_,h,A⟩
  cases B:x.toList with
  | nil=>rw[B]at h;cases h
  | cons a l=>rfl
theorem Has_bin(x:ByteArray)(W:World)(g:Nat)(B:W.heap.size=g):Calls Tryz.prog 88 #[.slice (some ⟨g,0,none⟩) 13 13,.string x] (W.alloc (.cells #[.string ⟨#[111,114]⟩,.string ⟨#[97,110,100]⟩,.string ⟨#[61,61]⟩,.string ⟨#[33,61]⟩,.string ⟨#[60]⟩,.string ⟨#[60,61]⟩,.string ⟨#[62]⟩,.string ⟨#[62,61]⟩,.string ⟨#[43]⟩,.string ⟨#[45]⟩,.string ⟨#[42]⟩,.string ⟨#[47]⟩,.string ⟨#[37]⟩] 9)) fun e w'=>e= .returned (.bool (kJ BU x))/\Below W.heap.size W w':=by
 subst B;refine(ve (some ⟨W.heap.size,0,none⟩) 13 13 BU x _ (Cs W 9 BU) rfl (by omega)).mono ?_;rintro e w1 ⟨rfl,A⟩;exact⟨rfl,(ag _ _).trans (A.mono (ag _ _).size)⟩
theorem text_any(t:ae)(D:Option Addr)(E:Nat)(w:World)(N:0<=t.kind)(J:t.kind<=29)(O:t.kind≠1):
 Calls Tryz.prog 152 #[aZ t D E] w fun e w'=>e= .returned (.bool (mK t.kind t.text))/\Below w.heap.size w w':=by
 obtain⟨k,x,a,z,m,I,Q,-,-,-,P⟩:=dR t D E;rw[P,Q,I];rw[I]at N J O;clear P I Q;have K:=kH (fun W:World=>Name_any x W);have R:=kH (Has_bin x);have S:=kH (fun W:World=>Xt x W);have A:Hid (Below w.heap.size w (w.alloc (.cells #[.int .i64 k,.string x,.int .i64 a,.int .i64 z,.slice D m E] 24))):=kH (ag _ _);have B:(k=3\/k=4\/k=5\/k=7\/k=8\/k=12\/k=16\/k=19\/k=20\/k=22\/k=27)\/k=9\/(k=10\/k=24)\/k=25\/k=28\/k=29\/(k=0\/k=2\/k=6\/k=11\/k=13\/k=14\/k=15\/k=17\/k=18\/k=21\/k=23\/k=26):=by omega
 clear N J O;rcases B with B|rfl|B|rfl|rfl|rfl|B
 ·rcases B with rfl|rfl|rfl|rfl|rfl|rfl|rfl|rfl|rfl|rfl|rfl
  all_goals
   go_in
   go_wp2_with fail
   refine(K.out _).mono ?_;rintro e w1 ⟨rfl,C⟩;go_wp2_with fail
   go_ret
   exact⟨by simp[mK,uV,df],A.out.trans (C.mono A.out.size)⟩
 ·rcases Qg #[105,110,116] #[98,111,111,108] _ _ rfl rfl x with rfl|rfl| ⟨F,G,H,L⟩
  rotate_right
  ·go_in
   go_wp2_with fail
   refine(K.out _).mono ?_;rintro e w1 ⟨rfl,C⟩;go_wp2_with fail
   go_ret
   exact⟨by simp[mK,uV,df, *],A.out.trans (C.mono A.out.size)⟩
  all_goals
   go_in
   go_wp2_with fail
   go_ret
   exact⟨by simp[mK,uV],A.out⟩
 ·rcases B with rfl|rfl
  all_goals
   go_in
   go_wp2_with fail
   refine(S.out _).mono ?_;rintro e w1 ⟨rfl,rfl⟩;go_wp2_with fail
   go_ret
   exact⟨by simp[mK,uV],A.out⟩
 ·rcases Qg #[116,114,117,101] #[102,97,108,115,101] _ _ rfl rfl x with rfl|rfl| ⟨F,G,H,L⟩
  all_goals
   go_in
   go_wp2_with fail
   go_ret
   exact⟨by simp[mK,uV, *],A.out⟩
 ·rcases Qg #[45] #[110,111,116] _ _ rfl rfl x with rfl|rfl| ⟨F,G,H,L⟩
  all_goals
   go_in
   go_wp2_with fail
   go_ret
   exact⟨by simp[mK,uV, *],A.out⟩
 ·go_in
  go_wp2_with fail
  refine(R.out (w.alloc _) (w.heap.size+1) (by simp)).mono ?_;rintro e w1 ⟨rfl,C⟩;go_wp2_with fail
  go_ret
  exact⟨by simp[mK,uV],A.out.trans (C.mono A.out.size)⟩
 ·rcases B with rfl|rfl|rfl|rfl|rfl|rfl|rfl|rfl|rfl|rfl|rfl|rfl
  all_goals rcases lits0 x with rfl| ⟨F,G,H⟩
  all_goals
   go_in
   go_wp2_with fail
   go_ret
   exact⟨by simp[mK,uV, *],A.out⟩
theorem mostR_le(k:Int):(uW k).2<=4096:=by
 unfold uW;repeat' split
 all_goals decide
theorem QN{k:Int}{A:List ae}{i:Nat}{u:ae}(D:A[i]? =some u):oH k i (A.drop i)=(kV k i u.kind u.text&&uE u&&oH k (i+1) (A.drop (i+1))):=by
 obtain⟨B,C⟩:=aah.1 D;rw[List.drop_eq_getElem_cons B,C,oH]
theorem Shape_any:∀(m:Nat) (t:ae) (A:Option Addr) (c:Nat) (w:World),ai t<=m->m<=1000000000000->aJ w w.heap.size A 0 t.kids ->
 Calls Tryz.prog 83 #[aZ t A c] w fun e w'=>e= .returned (.bool (uE t))/\Below w.heap.size w w':=by
 intro m
 induction m with
 | zero=>
  intro t A c w h;have:=tT t;omega
 | succ m ih=>
  rintro⟨k,x,a,z,C⟩ A c w hm hbig hk
  have hcm:aD C<=m:=by
   have:ai (.node k x a z C)=1+aD C:=rfl;omega
  have hk:aJ w w.heap.size A 0 C:=hk;have H:=fun h0 CO N (W:World)=>text_any (.node k x a z C) A c W h0 CO N
  have K:=fun(i:Nat) (hi:i<=1000000) u At ct (W:World) h0 CO N=>kid_any k i hi u At ct W h0 CO N
  rw[show uE (.node k x a z C)=(rF k x C.length&&oH k 0 C) by rw[uE]];change Calls Tryz.prog 83 #[.agg #[.int .i64 k,.string x,.int .i64 a,.int .i64 z,.slice A C.length c]] w _;change ∀(h0:0<=k) (CO:k<=29) (N:k≠1) (W:World),Calls Tryz.prog 152 #[.agg #[.int .i64 k,.string x,.int .i64 a,.int .i64 z,.slice A C.length c]] W fun e w'=>e= .returned (.bool (mK k x))/\Below W.heap.size W w' at H
  obtain⟨n,hn⟩:∃x,C.length=x:=⟨_,rfl⟩
  rw[hn]at H⊢;obtain⟨r,X⟩:∃b,(rF k x n&&oH k 0 C)=b:=⟨_,rfl⟩
  rw[X];have BI:Hid (Below w.heap.size w (w.alloc (.cells #[.int .i64 k,.string x,.int .i64 a,.int .i64 z,.slice A n c] 24))):=kH (ag _ _);by_cases h0:k<0
  ·have E:r=false:=by rw[<- X];unfold rF;rw[decide_eq_false (p:=0<=k) (by omega)];rfl
   subst E;clear X H K ih hk;go_in
   go_wp2_with fail
   go_ret
   exact⟨rfl,BI.out⟩
  by_cases N:k=1
  ·subst N
   have E:r=false:=by rw[<- X];unfold rF;simp
   subst E;clear X H K ih hk;go_in
   go_wp2_with fail
   go_ret
   exact⟨rfl,BI.out⟩
  have h1b:(k==1)=false:=by simpa using N
  by_cases CO:29<k
  ·have E:r=false:=by rw[<- X];unfold rF;rw[decide_eq_false (p:=k<=29) (by omega)];simp
   subst E;clear X H K ih hk N;go_in
   go_wp2_with fail
   go_ret
   exact⟨rfl,BI.out⟩
  have H:=H (by omega) (by omega) N;have V:=fun W:World=>most_any k (by omega) (by omega) W
  have K:=fun(i:Nat) (hi:i<=1000000) u At ct (W:World)=>K i hi u At ct W (by omega) (by omega) N
  have hq:=mostR_le k
  have G:r=(mK k x&&decide ((uW k).1<=n)&&decide (n<=(uW k).2)&&oH k 0 C):=by
   rw[<- X];unfold rF;rw[decide_eq_true (p:=0<=k) (by omega),decide_eq_false N,decide_eq_true (p:=k<=29) (by omega)];simp
  obtain⟨tb,htb⟩:∃b,mK k x=b:=⟨_,rfl⟩
  obtain⟨p,q,hpq⟩:∃p q,uW k=(p,q):=⟨_,_,rfl⟩
  rw[htb]at H G;rw[hpq]at V G hq;change ∀W:World,Calls Tryz.prog 153 #[.int .i64 k] W fun e w'=>e= .returned (.tuple #[.int .i64 (p:Int),.int .i64 (q:Int)])/\W=w' at V
  change r=(tb&&decide (p<=n)&&decide (n<=q)&&oH k 0 C) at G;have hq:q<=4096:=hq;have Pt:=kH H;have HMO:=kH V;have qX:=kH K;have HK:=kH hk;have HN:=kH hn;have fE:=kH ih;have HM:Hid (aD C<=m/\m<=1000000000000):=kH ⟨hcm,by omega⟩;clear X H V K hk hn ih hcm hbig hm htb hpq N;go_in
  go_wp2_with fail
  generalize hW1:w.alloc (.cells #[.int .i64 k,.string x,.int .i64 a,.int .i64 z,.slice A n c] 24)=W1
  have iE:aj W1 w.heap.size 24 #[.int .i64 k,.string x,.int .i64 a,.int .i64 z,.slice A n c]:=by rw[<- hW1];exact aj.new w _ _
  rw[hW1]at BI;have HR1:=kH iE;clear hW1 iE;refine(Pt.out _).mono ?_;rintro e w1 ⟨rfl,hb1⟩;have F:=kH (BI.out.trans (hb1.mono BI.out.size));have O:=HR1.out.below hb1 HR1.out.lt;have c0:w1.cell? ⟨w.heap.size,0,none⟩=some (.int .i64 k):=O.cell 0;have c4:w1.cell? ⟨w.heap.size,4,none⟩=some (.slice A n c):=O.cell 4;have hl2:=O.lt;have HR2:=kH O;have HK1:=kH (aJ.below F.out (aab _) _ _ _ HK.out);clear hb1 O HR1 BI Pt
  cases tb with
  | false=>
   have E:r=false:=by rw[G];rfl
   subst E;clear G;go_wp2_with fail
   go_ret
   exact⟨rfl,F.out⟩
  | true=>
  go_wp2_with fail
  refine(HMO.out _).mono ?_;rintro e w' ⟨rfl,rfl⟩;by_cases hp:n<p
  ·have hpi:(n:Int)<(p:Int):=by omega
   have E:r=false:=by rw[G,decide_eq_false (p:=p<=n) (by omega)];rfl
   subst E;clear G;go_wp2_with fail
   go_ret
   exact⟨rfl,F.out⟩
  have hpi:¬(n:Int)<(p:Int):=by omega
  by_cases hqn:q<n
  ·have hqi:(q:Int)<(n:Int):=by omega
   have E:r=false:=by rw[G,decide_eq_false (p:=n<=q) (by omega)];simp
   subst E;clear G;go_wp2_with fail
   go_ret
   exact⟨rfl,F.out⟩
  have hqi:¬(q:Int)<(n:Int):=by omega
  have hrs:r=oH k 0 C:=by rw[G,decide_eq_true (p:=p<=n) (by omega),decide_eq_true (p:=n<=q) (by omega)];simp
  have Sb:n<=4096:=by omega
  have HRS:=kH hrs;clear G hrs hq;go_wp2_with fail
  go_loopg [5] n (fun gk s5 wr=> ∃i:Nat,i+gk=n/\s5= .int .i64 (i:Int)/\Below w1.heap.size w1 wr/\r=oH k i (C.drop i))
  case atStart=>exact⟨0,by omega,rfl,Below.refl _ _,HRS.out⟩
  case round=>
   obtain⟨i,hi,rfl,hB,hri⟩:=hrel;have P:=HR2.out.below hB hl2;have r0:wr.cell? ⟨w.heap.size,0,none⟩=some (.int .i64 k):=P.cell 0;have r4:wr.cell? ⟨w.heap.size,4,none⟩=some (.slice A n c):=P.cell 4;have hlr:=P.lt;have HRr:=kH P;have S:=kH hB;have HI:=kH hi;have HRI:=kH hri;have hin:i<=n:=by omega
   clear hB P hi hri c0 c4;by_cases hlt:i<n
   ·have hlt':(i:Int)<(n:Int):=by omega
    have hi0:¬((i:Int)<0):=by omega
    obtain⟨u,hu⟩:∃u,C[i]? =some u:=⟨_,aaf (by rw[HN.out];exact hlt)⟩
    obtain⟨vals,⟨b,D,hA,hbl,hcs⟩,hT⟩:=HK1.out.get i u hu;obtain⟨A',c',jF,hK'⟩:=hT.five;subst hA;subst jF;have hbW:b<w1.heap.size:=by omega
    have R:∀W,Below wr.heap.size wr W->W.cell? ⟨w.heap.size,0,none⟩=some (.int .i64 k)/\W.cell? ⟨w.heap.size,4,none⟩=some (.slice (some ⟨b,D,none⟩) n c)/\W.cell? ⟨b,D+i*5,none⟩=some (.int .i64 u.kind)/\W.cell? ⟨b,D+i*5+1,none⟩=some (.string u.text)/\W.cell? ⟨b,D+i*5+2,none⟩=some (.int .i64 u.at_)/\W.cell? ⟨b,D+i*5+3,none⟩=some (.int .i64 u.end_)/\W.cell? ⟨b,D+i*5+4,none⟩=some (.slice A' u.kids.length c'):=fun W hb=>by
     have hBW:=S.out.trans (hb.mono S.out.size);have hh:=HR2.out.below hBW hl2;have e:=fun j v (hj:[Value.int .i64 u.kind,.string u.text,.int .i64 u.at_,.int .i64 u.end_,.slice A' u.kids.length c'][j]? =some v)=>(hBW.cell (p:=⟨b,_,none⟩) hbW).trans (hcs j v hj)
     exact⟨hh.cell 0,hh.cell 4,by simpa using e 0 _ rfl,by simpa using e 1 _ rfl,by simpa using e 2 _ rfl,by simpa using e 3 _ rfl,by simpa using e 4 _ rfl⟩
    have htk:=gD C i u hu;have hle:=iZ C (i+1);have hsh:=QN (k:=k) hu;have J:=fun W (hb:Below wr.heap.size wr W)=>fE.out u A' c' W (by have:=HM.out;omega) HM.out.2 (aJ.mono (B:=w.heap.size) (by have:=F.out.size;have:=S.out.size;have:=hb.size;omega) _ _ _ (aJ.below (S.out.trans (hb.mono S.out.size)) (by have:=F.out.size;omega) _ _ _ hK'))
    have yM:=fun W:World=>qX.out i (by omega) u A' c' W
    obtain⟨kb,hkb⟩:∃y,kV k i u.kind u.text=y:=⟨_,rfl⟩
    obtain⟨sb,hsb⟩:∃y,uE u=y:=⟨_,rfl⟩
    rw[hkb]at yM;rw[hsb]at J;rw[hkb,hsb]at hsh;unfold aZ at J yM;have HC:=kH J;have HKI:=kH yM;have VO:=kH (HRI.out.trans hsh);have hwr:IntKind.i64.wrap ((i:Int)+1)=(i:Int)+1:=IntWalk.i64_in _ (by omega);have Fq:=kH R;obtain⟨un,hun⟩:∃q,u.kids.length=q:=⟨_,rfl⟩
    obtain⟨uk,xJ⟩:∃q,u.kind=q:=⟨_,rfl⟩
    obtain⟨ux,xI⟩:∃q,u.text=q:=⟨_,rfl⟩
    obtain⟨ua,zX⟩:∃q,u.at_=q:=⟨_,rfl⟩
    obtain⟨ue,hue⟩:∃q,u.end_=q:=⟨_,rfl⟩
    rw[hun,xJ,xI,zX,hue]at HC HKI Fq;clear hcs hT hK' htk hle J hu hun xJ xI zX hue yM hsh R hkb hsb;have L:Below wr.heap.size wr wr.drew:=(Below.refl _ _).drew;have Q:=Fq.out _ L;go_wp2_with fail
    cases kb with
    | false=>
     have E:r=false:=by rw[VO.out];rfl
     subst E;refine dD (fun W=>W.cell? ⟨w.heap.size,0,none⟩=some (.int .i64 k)/\W.cell? ⟨w.heap.size,4,none⟩=some (.slice (some ⟨b,D,none⟩) n c)/\W.cell? ⟨b,D+i*5,none⟩=some (.int .i64 uk)/\W.cell? ⟨b,D+i*5+1,none⟩=some (.string ux)/\W.cell? ⟨b,D+i*5+2,none⟩=some (.int .i64 ua)/\W.cell? ⟨b,D+i*5+3,none⟩=some (.int .i64 ue)/\W.cell? ⟨b,D+i*5+4,none⟩=some (.slice A' un c')) [] [true,true,true,true,true,true,true,true,false,true,true,true,true,true,true,true,true,true,true] (by kernel_rfl) (by kernel_rfl) rfl (by kernel_rfl) ?_;iterate 8((first|(refine dB (by rfl) Q ?_)|(refine bV (by rfl) Q (by intro w' I;obtain⟨Y,Z,l,g,f,d,hs7⟩:=I;go_simp;rfl) ?_));simp only[Act.put,sA,sZ,sC])
     refine eH (by rfl) (by go_simp) ((HKI.out _).mono ?_);rintro e4 w4 ⟨rfl,U⟩;have cO:Below wr.heap.size wr w4:=L.trans (U.mono L.size);have mq:=Fq.out _ cO;refine⟨_,rfl,fun _=>mq,?_⟩;iterate 10(simp only[Act.put,sA,sZ,sC];(first|(refine dB (by rfl) mq ?_)|(refine bV (by rfl) mq (by intro w' I;obtain⟨Y,Z,l,g,f,d,hs7⟩:=I;go_simp;rfl) ?_)))
     simp only[Act.put,sA,sZ,sC];refine gJ ?_;go_wp2_with fail
     go_ret
     exact⟨rfl,F.out.trans ((S.out.trans (cO.mono S.out.size)).mono F.out.size)⟩
    | true=>
     refine dD (fun W=>W.cell? ⟨w.heap.size,0,none⟩=some (.int .i64 k)/\W.cell? ⟨w.heap.size,4,none⟩=some (.slice (some ⟨b,D,none⟩) n c)/\W.cell? ⟨b,D+i*5,none⟩=some (.int .i64 uk)/\W.cell? ⟨b,D+i*5+1,none⟩=some (.string ux)/\W.cell? ⟨b,D+i*5+2,none⟩=some (.int .i64 ua)/\W.cell? ⟨b,D+i*5+3,none⟩=some (.int .i64 ue)/\W.cell? ⟨b,D+i*5+4,none⟩=some (.slice A' un c')) [] [true,true,true,true,true,true,true,true,false,true,true,true,true,true,true,true,false,true,true] (by kernel_rfl) (by kernel_rfl) rfl (by kernel_rfl) ?_;iterate 8((first|(refine dB (by rfl) Q ?_)|(refine bV (by rfl) Q (by intro w' I;obtain⟨Y,Z,l,g,f,d,hs7⟩:=I;go_simp;rfl) ?_));simp only[Act.put,sA,sZ,sC])
     refine eH (by rfl) (by go_simp) ((HKI.out _).mono ?_);rintro e4 w4 ⟨rfl,U⟩;have cO:Below wr.heap.size wr w4:=L.trans (U.mono L.size);have mq:=Fq.out _ cO;refine⟨_,rfl,fun _=>mq,?_⟩;iterate 7(simp only[Act.put,sA,sZ,sC];(first|(refine dB (by rfl) mq ?_)|(refine bV (by rfl) mq (by intro w' I;obtain⟨Y,Z,l,g,f,d,hs7⟩:=I;go_simp;rfl) ?_)))
     simp only[Act.put,sA,sZ,sC];refine eH (by rfl) (by go_simp) ((HC.out _ cO).mono ?_);rintro e5 w5 ⟨rfl,hb5⟩;have qh:Below wr.heap.size wr w5:=cO.trans (hb5.mono cO.size);have T:=Fq.out _ qh;refine⟨_,rfl,fun _=>T,?_⟩;iterate 2(simp only[Act.put,sA,sZ,sC];(first|(refine dB (by rfl) T ?_)|(refine bV (by rfl) T (by intro w' I;obtain⟨Y,Z,l,g,f,d,hs7⟩:=I;go_simp;rfl) ?_)))
     simp only[Act.put,sA,sZ,sC];refine gJ ?_;have hbw:=S.out.trans (qh.mono S.out.size);have mJ:=kH hbw;clear U hb5 cO qh Q mq T L hbw
     cases sb with
     | false=>
      have E:r=false:=by rw[VO.out];rfl
      subst E;go_wp2_with fail
      go_ret
      exact⟨rfl,F.out.trans (mJ.out.mono F.out.size)⟩
     | true=>
      go_wp2_with fail
      go_roundg (gk - 1)
      case measure=>have:=HI.out;omega
      case rel=>exact⟨i+1,by have:=HI.out;omega,by simp,mJ.out,by rw[VO.out];simp⟩
   ·have hie:i=n:=by omega
    have hres:r=true:=by rw[HRI.out,hie,<- HN.out,List.drop_length,oH]
    subst hres;go_wp2_with fail
    go_ret
    exact⟨rfl,F.out.trans (S.out.mono F.out.size)⟩
theorem WN(t:ae)(A:Option Addr)(c:Nat)(w:World)(L:ai t<=4096)(K:aJ w w.heap.size A 0 t.kids):
 Calls Tryz.prog 42 #[aZ t A c] w fun e w'=>e= .returned (.bool (jC t))/\Below w.heap.size w w':=by
 obtain⟨k,x,a,z,m,D,-,-,-,-,N⟩:=dR t A c;have B:=ag w (.cells #[.int .i64 k,.string x,.int .i64 a,.int .i64 z,.slice A m c] 24);have F:=Shape_any (ai t) t A c (w.alloc (.cells #[.int .i64 k,.string x,.int .i64 a,.int .i64 z,.slice A m c] 24)) (aab _) (by omega) (aJ.mono (by simp) _ _ _ (aJ.below B (aab _) _ _ _ K));have G:=F.mono (R':=fun e w'=>e= .returned (.bool (fP t))/\Below w.heap.size w w') (fun e w' ⟨O,H⟩=>⟨by rw[<- IZ t L];exact O,B.trans (H.mono (by simp))⟩);obtain⟨q,C⟩:∃q,jC t=q:=⟨_,rfl⟩
 rw[N]at G⊢;rw[C];unfold jC at C;obtain⟨Q,E⟩:∃q,fP t=q:=⟨_,rfl⟩
 rw[E]at G C;rw[D]at C;have I:=kH B;have J:=kH C;clear K F D E C L B N;by_cases H:k=2
 ·subst H
  go_in
  go_wp2_with fail
  refine G.mono ?_;rintro e R ⟨rfl,P⟩;go_wp2_with fail
  go_ret
  exact⟨Bu (by rw[<- J.out];simp),P⟩
 ·clear G
  go_in
  go_wp2_with fail
  go_ret
  exact⟨Bu (by rw[<- J.out];simp[H]),I.out⟩
theorem VD{t:ae}(G:jC t=true)(mk:Int):(yO t mk).ds=(dZ t).ds/\(yO t mk).uses=(dZ t).uses/\(yO t mk).list=(dZ t).aY.map (·.2) /\
 ∀m:Nat,mk=(m:Int)->m<ai t->bE (dZ t).aR (m:Int)=if kP t.kids 1 m=true then some ((yO t mk).at_.map fun(i:Nat)=>(i:Int)) else none:=by
 obtain⟨W,E,A,B,C,D⟩:=walk_all G mk;have F:NH t mk=W:=E;unfold yO;rw[F];exact⟨A,C,B,D⟩
def FX(base ob:Nat)(M:Nat->Prop)(w w':World):Prop:=aF (fun g=>(g=ob\/(base<=g/\∃cs fr,w.heap[g]? =some (.cells cs 9 fr)))\/M g) w w'
section
variable {base ob:Nat}{M M':Nat->Prop}{w w1 w':World}
theorem FX.refl(base ob:Nat)(M:Nat->Prop)(w:World):FX base ob M w w:=aF.refl _ _
theorem FX.trans(h:FX base ob M w w1)(k:FX base ob M' w1 w')(K:∀g,M' g->M g\/w.heap.size<=g):FX base ob M w w':=by
 refine⟨k.os.trans h.os,k.tape.trans h.tape,k.output.trans h.output,aac h.size k.size,fun g D E=>?_⟩;have B:=h.block g D E
 have H:=k.block g (Nat.lt_of_lt_of_le D h.size) (fun A=>E (by
  rcases A with(A| ⟨I,F,G,J⟩)|A
  ·exact .inl (.inl A)
  ·exact .inl (.inr ⟨I,F,G,by rw[<- B];exact J⟩)
  ·rcases K g A with C|C
   ·exact .inr C
   ·omega))
 rw[H,B]
theorem FX.of_below(A:Below w.heap.size w w'):FX base ob M w w':=(aF.refl _ _).below A
theorem FX.oP(h:aF M w w'):FX base ob M w w':=aF.mono h fun _ A=>.inr A
theorem FX.low(h:FX base ob M w w'){B:Nat}(D:B<=w.heap.size)(F:B<=ob)(C:B<=base)(E:∀g,M g->B<=g):Below B w w':=aF.toBelow h D fun g A=>by
 rcases A with(A|A)|A
 ·omega
 ·exact aac C A.1
 ·exact E g A
theorem FX.blk(h:FX base ob M w w'){g:Nat}{t:TypeId}{B:Array Value}(C:aj w g t B)(H:t≠9)(G:g≠ob)(F:¬M g):aj w' g t B:=by
 refine aj.since C h fun A=>?_
 rcases A with(A| ⟨-,D,I,A⟩)|A
 ·exact G A
 ·have E:w.heap[g]? =some (Obj.cells _ _ (0,0)):=C
  rw[E]at A;simp only[aag,Obj.cells.injEq]at A;exact H A.2.1
 ·exact F A
theorem FX.Tv(h:FX base ob M w w'){K:Type}[DecidableEq K]{KK:oW K}{r:Nat}{m:List (K×Value)}(B:bA KK w r m){t:TypeId}{D:Array Value}(C:aj w ob t D)(F:¬M r):bA KK w' r m:=by
 refine B.since h fun A=>?_
 rcases A with(A| ⟨-,E,J,A⟩)|A
 ·exact B.rJ C A
 ·obtain⟨I,H,G⟩:=B.isMap
  rw[G]at A;cases A
 ·exact F A
theorem aj.ne_of{g C:Nat}{t D:TypeId}{E A:Array Value}(h:aj w g t E)(G:aj w C D A)(H:t≠D):g≠C:=fun e=>by
 have B:w.heap[g]? =some (Obj.cells _ _ (0,0)):=h;have F:w.heap[C]? =some (Obj.cells _ _ (0,0)):=G;rw[e,F]at B;simp only[aag,Obj.cells.injEq]at B;exact H B.2.1.symm
theorem FX.sc(h:FX base ob M w w'){C:Array Value}(B:aj w ob 41 C)(A:∀g t C,aj w g t C->¬M g):∀{s:aS}{p:Option Addr}{D:List Nat},bL w base p s D->(∀m∈D,¬M m)->bL w' base p s D
 | [],_,_,hs,_=>hs
 | _::_,_,_,⟨b,m,p',ms',h1,h2,h3,h4,h5,h6,h7⟩,hms=>by
  subst h2;exact⟨b,m,p',ms',h1,rfl,h3,h4,h.blk h5 (by decide) (h5.ne_of B (by decide)) (A _ _ _ h5),h.Tv h6 B (hms m (by simp)),FX.sc h B A h7 fun x E=>hms x (by simp[E])⟩
end
theorem Ga:(Tryz.prog.info? 9).map (fun i=>(i.zero,i.size,i.bytes))=some (some (.string ⟨#[]⟩),1,16):=by kernel_rfl
def oM(base ob:Nat)(out:List ByteArray)(w:World):Prop:=∃A n c,aj w ob 41 #[.slice A n c]/\aK w base 9 1 (.slice A n c) n (out.flatMap bN)
theorem oM.below{base ob:Nat}{B:List ByteArray}{w w':World}(h:oM base ob B w)(E:Below w.heap.size w w'):oM base ob B w':=by
 obtain⟨A,n,c,C,D⟩:=h;exact⟨A,n,c,C.below E C.lt,D.below E fun g F=>(D.lt g F).2⟩
def Ld(s:aS)(x:ByteArray)(out:List ByteArray):List ByteArray:=if (fe s x).isSome || kJ out x then out else out++[x]
theorem Bo(l:List ByteArray):(l.flatMap bN).length=l.length:=by
 induction l with
 | nil=>rfl
 | cons a l ih=>rw[List.flatMap_cons,aam,ih,aao];simp[bN];omega
theorem add_any(base ob:Nat)(E:List ByteArray)(s:aS)(p:Option Addr)(r:List Nat)(x:ByteArray)(w:World)(t:bL w base p s r)(ho:oM base ob E w)(hb:base<=w.heap.size)(hm:E.length<=1000000):
 Calls Tryz.prog 44 #[.string x,.pointer p,.pointer (some ⟨ob,0,none⟩)] w fun e w'=>e= .returned (.tuple #[])/\oM base ob (Ld s x E) w'/\FX base ob (fun _=>False) w w':=by
 obtain⟨i0,W,X,Y,Z⟩:=info_parts Ga;have V:=K3 base x w s p r t;obtain⟨A,n,c,D,B⟩:=ho;have P:n=E.length:=by have:=B.1;rw[Bo]at this;omega
 unfold Ld;generalize fe s x=fo at V⊢
 obtain⟨U,I⟩:∃q,kJ E x=q:=⟨_,rfl⟩
 rw[I];have G:=FL A n c E x w (B.rowAt (cells:=bN) (l:=E) rfl rfl (fun _ _=>rfl) P.symm) P.symm (by omega);rw[I]at G;have c0:=D.cell 0;have f0:=D.frozen 0;have lo:=D.lt;have K:=kH V;have z:=kH G;have O:=kH D;have L:=kH B;have k:=kH P;clear V G D B I t P
 cases fo with
 | some y=>
  simp only[Option.isSome_some,Bool.true_or,if_true]at K⊢;go_in
  go_wp2_with fail
  refine K.out.mono ?_;rintro e J ⟨rfl,C⟩;obtain rfl:w=J:=C.symm;go_wp2_with fail
  go_end0
  exact⟨rfl,⟨A,n,c,O.out,L.out⟩,FX.refl _ _ _ _⟩
 | none=>
  simp only[Option.isSome_none,Bool.false_or]at K⊢
  cases U with
  | true=>
   simp only[if_true];go_in
   go_wp2_with fail
   refine K.out.mono ?_;rintro e J ⟨rfl,C⟩;obtain rfl:w=J:=C.symm;go_wp2_with fail
   refine z.out.mono ?_;rintro e J ⟨rfl,C⟩;subst C;go_wp2_with fail
   go_end0
   exact⟨rfl,⟨A,n,c,O.out,L.out⟩,FX.refl _ _ _ _⟩
  | false=>
   simp only[Bool.false_eq_true,if_false];have hnm:n<=1000000:=by have:=k.out;omega
   go_in
   go_wp2_with fail
   refine K.out.mono ?_;rintro e J ⟨rfl,C⟩;obtain rfl:w=J:=C.symm;go_wp2_with fail
   refine z.out.mono ?_;rintro e J ⟨rfl,C⟩;subst C;go_wp2_with (at_builtin;go_must (refine di _ rfl (.tmp 21) (.tmp 23) _ rfl base 9 i0 _ 1 16 Tryz.underlying41 W X Y Z rfl (.slice A n c) n (E.flatMap bN) rfl (L.out.alloc _) ⟨_,0,none⟩ 1 1 [.string x] rfl rfl (wF _ _ _ (by go_simp)) (by simp[Value.oneCell']) (by simp only[maxLen];omega) (by omega) (by simp;omega) ?_);intro vn w6 B F T;obtain⟨Q,R,nC,-,-⟩:=B.shape;subst nC;have H:=kH B;have qy:=kH F;have N:=aj.grown (aj.alloc O.out _) F (fun f=>L.out.cB O.out (by decide) f.symm);have q4:=N.cell 0;have q5:=N.frozen 0;have q6:=N.lt;have m:=kH N;clear B F T N)
   go_end0
   refine⟨rfl,⟨Q,n+1,R,?_,?_⟩,?_⟩
   ·have:=m.out.gu 0 (.slice Q (n+1) R)
    simpa using this
   ·have b:=H.out.setCell (p:=⟨ob,0,none⟩) (H.out.cB m.out (by decide)) (.slice Q (n+1) R)
    rw[List.flatMap_append];exact b
   ·have v:=L.out
    refine aF.setCell (S:=fun g=>(g=ob\/(base<=g/\∃j d,w.heap[g]? =some (.cells j 9 d)))\/False) ((aF.alloc (aF.refl _ w) _).grown qy.out (fun g u=>.inl (.inl (.inr ?_)))) (p:=⟨ob,0,none⟩) (.inl (.inl (.inl rfl))) _;obtain⟨cur,hc⟩:=v.obj g u;exact⟨(v.lt g u).1,cur,(0,0),hc⟩
end Go.Proofs.YtoepemlnlpamlaaGreat
