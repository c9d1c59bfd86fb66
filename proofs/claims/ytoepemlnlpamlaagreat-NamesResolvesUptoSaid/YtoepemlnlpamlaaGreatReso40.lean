/- The law NamesResolves holds where what it reads is of bulk at most 1048576: it returns true, and its argument reads as before. Part 40: ShpA ShpB ShpC ShpD ShpE Rs1. -/
import Derived.Test.YtoepemlnlpamlaaGreatReso13
import Derived.Test.YtoepemlnlpamlaaGreatReso17
import Derived.Test.YtoepemlnlpamlaaGreatReso34
import Derived.Test.YtoepemlnlpamlaaGreatReso39
set_option maxRecDepth 100000
set_option maxHeartbeats 4000000
namespace Go.Proofs.YtoepemlnlpamlaaGreat
open Go.RowKit
theorem x_lits(x:ByteArray):(x=⟨#[105,110,116]⟩/\dJ x=true)\/(x=⟨#[98,111,111,108]⟩/\dJ x=true)\/((x.toList==[105,110,116])=false/\(x.toList==[98,111,111,108])=false/\dJ x=false):=by
 by_cases h1:x=⟨#[105,110,116]⟩
 ·exact .inl ⟨h1,by rw[h1];decide⟩
 ·by_cases h2:x=⟨#[98,111,111,108]⟩
  ·exact .inr (.inl ⟨h2,by rw[h2];decide⟩)
  ·refine .inr (.inr ⟨?_,?_,?_⟩)
   ·rw[beq_eq_false_iff_ne];exact fun h=>h1 (mE (by rw[<- ByteArray.toList_eq,h]))
   ·rw[beq_eq_false_iff_ne];exact fun h=>h2 (mE (by rw[<- ByteArray.toList_eq,h]))
   ·unfold dJ;rw[decide_eq_false h1,decide_eq_false h2];rfl
theorem kq(k c:Int):k=c\/(k≠c/\(k==c)=false):=by
 by_cases h:k=c
 ·exact .inl h
 ·exact .inr ⟨h,by simpa using h⟩
theorem iq(i c:Nat)(C:Int)(hc:(c:Int)=C):i=c\/(i≠c/\¬(i:Int)=C/\((i:Int)==C)=false):=by
 by_cases h:i=c
 ·exact .inl h
 ·have h2:¬(i:Int)=C:=by omega
  exact .inr ⟨h,h2,by simpa using h2⟩
theorem jq(i c:Nat)(C:Int)(hc:(c:Int)=C):(i<c/\(i:Int)<C)\/(¬i<c/\¬(i:Int)<C):=by omega
theorem bq(b:Bool):b=true\/b=false:=by cases b<;>simp
theorem kid_any(K:Int)(i:Nat)(hi:i<=1000000)(t:ae)(At:Option Addr)(ct:Nat)(w:World)(h0:0<=K)(BQ:K<=29)(h1:K≠1):
 Calls Tryz.prog 154 #[.int .i64 K,.int .i64 (i:Int),bD t At ct] w fun e w'=>e= .returned (.bool (ky K i t.kind t.text))/\Below w.heap.size w w':=by
 obtain⟨k,x,a,z,m,hk,hx,-,-,-,hv⟩:=fq t At ct;rw[hv,hk,hx];clear hv hk hx;obtain⟨T,hT⟩:∃b,di k=b:=⟨_,rfl⟩
 obtain⟨X,hX⟩:∃b,aP k=b:=⟨_,rfl⟩
 obtain⟨L,hL⟩:∃b,jh k=b:=⟨_,rfl⟩
 obtain⟨S,hS⟩:∃b,kG k=b:=⟨_,rfl⟩
 have HT:=kH (fun W:World=>Zl k W);have HX:=kH (fun W:World=>Zn k W);have HL:=kH (fun W:World=>Xf k W);have HS:=kH (fun W:World=>Zm k W);rw[hT]at HT;rw[hX]at HX;rw[hL]at HL;rw[hS]at HS;have HB:Hid (Below w.heap.size w (w.alloc (.cells #[.int .i64 k,.string x,.int .i64 a,.int .i64 z,.slice At m ct] 24))):=kH (ag _ _);have hc:K=0\/K=2\/K=3\/K=4\/K=5\/K=6\/K=7\/K=8\/K=9\/K=10\/K=11\/K=12\/K=13\/K=14\/K=15\/K=16\/K=17\/K=18\/K=19\/K=20\/K=21\/K=22\/K=23\/K=24\/K=25\/K=26\/K=27\/K=28\/K=29:=by omega
 clear h0 BQ h1;rcases hc with rfl|rfl|rfl|rfl|rfl|rfl|rfl|rfl|rfl|rfl|rfl|rfl|rfl|rfl|rfl|rfl|rfl|rfl|rfl|rfl|rfl|rfl|rfl|rfl|rfl|rfl|rfl|rfl|rfl
 obtain rfl|rfl:=bq X
 rotate_left
 rotate_left
 rcases kq k 3 with rfl| ⟨hk3,hb3⟩
 rotate_left
 rcases kq k 5 with rfl| ⟨hk5,hb5⟩
 rotate_left
 rotate_left
 rcases kq k 4 with rfl| ⟨hk4,hb4⟩
 rotate_left
 rotate_left
 rcases kq k 9 with rfl| ⟨vU,fA⟩
 rcases x_lits x with⟨rfl,hs⟩| ⟨rfl,hs⟩| ⟨g1,g2,hs⟩
 rotate_left
 rotate_left
 rotate_left
 rotate_left
 rcases iq i 0 0 rfl with rfl| ⟨hi0,ha0,hc0⟩
 rcases kq k 6 with rfl| ⟨YD,hb6⟩
 rotate_left
 rotate_left
 rcases iq i 1 1 rfl with rfl| ⟨hi1,ha1,hc1⟩
 obtain rfl|rfl:=bq T
 rotate_left
 rcases kq k 0 with rfl| ⟨hk0,hb0⟩
 rotate_left
 rotate_left
 rcases iq i 2 2 rfl with rfl| ⟨hi2,ha2,hc2⟩
 rcases kq k 11 with rfl| ⟨JN,ig⟩
 rotate_left
 rotate_left
 rotate_left
 rcases kq k 7 with rfl| ⟨hk7,dB⟩
 rotate_left
 rcases kq k 8 with rfl| ⟨AJ,dW⟩
 rotate_left
 rotate_left
 obtain rfl|rfl:=bq T
 rotate_left
 rcases kq k 0 with rfl| ⟨hk0,hb0⟩
 rotate_left
 rotate_left
 obtain rfl|rfl:=bq T
 rotate_left
 rcases kq k 0 with rfl| ⟨hk0,hb0⟩
 rotate_left
 rotate_left
 obtain rfl|rfl:=bq X
 rotate_left
 rotate_left
 obtain rfl|rfl:=bq X
 rotate_left
 rotate_left
 obtain rfl|rfl:=bq S
 rotate_left
 rotate_left
 rcases iq i 0 0 rfl with rfl| ⟨hi0,ha0,hc0⟩
 obtain rfl|rfl:=bq T
 rotate_left
 rcases kq k 0 with rfl| ⟨hk0,hb0⟩
 rotate_left
 rotate_left
 rcases iq i 1 1 rfl with rfl| ⟨hi1,ha1,hc1⟩
 obtain rfl|rfl:=bq X
 rotate_left
 rotate_left
 rotate_left
 rcases iq i 0 0 rfl with rfl| ⟨hi0,ha0,hc0⟩
 obtain rfl|rfl:=bq L
 rotate_left
 rotate_left
 rcases iq i 1 1 rfl with rfl| ⟨hi1,ha1,hc1⟩
 obtain rfl|rfl:=bq X
 rotate_left
 rotate_left
 rotate_left
 rcases iq i 0 0 rfl with rfl| ⟨hi0,ha0,hc0⟩
 obtain rfl|rfl:=bq X
 rotate_left
 rotate_left
 rcases iq i 1 1 rfl with rfl| ⟨hi1,ha1,hc1⟩
 rcases kq k 11 with rfl| ⟨JN,ig⟩
 rotate_left
 rotate_left
 rcases iq i 2 2 rfl with rfl| ⟨hi2,ha2,hc2⟩
 rcases kq k 11 with rfl| ⟨JN,ig⟩
 rotate_left
 rcases kq k 14 with rfl| ⟨WB,dO⟩
 rotate_left
 rcases kq k 0 with rfl| ⟨hk0,hb0⟩
 rotate_left
 rotate_left
 rotate_left
 rcases iq i 0 0 rfl with rfl| ⟨hi0,ha0,hc0⟩
 obtain rfl|rfl:=bq X
 rotate_left
 rotate_left
 rcases iq i 1 1 rfl with rfl| ⟨hi1,ha1,hc1⟩
 rcases kq k 11 with rfl| ⟨JN,ig⟩
 rotate_left
 rotate_left
 rotate_left
 rcases jq i 2 2 rfl with⟨hj,hk⟩| ⟨hj,hk⟩
 obtain rfl|rfl:=bq X
 rotate_left
 rotate_left
 rcases iq i 2 2 rfl with rfl| ⟨hi2,ha2,hc2⟩
 rcases kq k 11 with rfl| ⟨JN,ig⟩
 rotate_left
 rotate_left
 rotate_left
 obtain rfl|rfl:=bq X
 rotate_left
 rcases kq k 0 with rfl| ⟨hk0,hb0⟩
 rotate_left
 rotate_left
 obtain rfl|rfl:=bq X
 rotate_left
 rotate_left
 obtain rfl|rfl:=bq X
 rotate_left
 rotate_left
 obtain rfl|rfl:=bq X
 rotate_left
 rotate_left
 rcases iq i 0 0 rfl with rfl| ⟨hi0,ha0,hc0⟩
 rcases kq k 20 with rfl| ⟨FR,hb20⟩
 rotate_left
 rotate_left
 rcases iq i 1 1 rfl with rfl| ⟨hi1,ha1,hc1⟩
 obtain rfl|rfl:=bq X
 rotate_left
 rotate_left
 rotate_left
 rcases kq k 20 with rfl| ⟨FR,hb20⟩
 rotate_left
 rotate_left
 rcases kq k 20 with rfl| ⟨FR,hb20⟩
 rotate_left
 rotate_left
 obtain rfl|rfl:=bq X
 rotate_left
 rotate_left
 obtain rfl|rfl:=bq X
 rotate_left
 rotate_left
 obtain rfl|rfl:=bq X
 rotate_left
 rotate_left
 obtain rfl|rfl:=bq X
 rotate_left
 rotate_left
 obtain rfl|rfl:=bq X
 rotate_left
 rotate_left
 obtain rfl|rfl:=bq X
 rotate_left
 rotate_left
 all_goals
  go_enter Tryz.func154,Tryz.ntmps154
  go_wp2_with (first|(go_at_call 206;refine(HT.out _).mono ?_;rintro e w' ⟨rfl,rfl⟩)|(go_at_call 207;refine(HX.out _).mono ?_;rintro e w' ⟨rfl,rfl⟩)|(go_at_call 208;refine(HL.out _).mono ?_;rintro e w' ⟨rfl,rfl⟩)|(go_at_call 26;refine(HS.out _).mono ?_;rintro e w' ⟨rfl,rfl⟩))
  go_ret
  exact⟨by first|(simp[ky, *];done)|(simp[ky, *];omega),HB.out⟩
theorem abm(s:ByteArray)(w:World):Calls Tryz.prog 204 #[.string s] w fun e w'=>e= .returned (.bool (qR s.data.toList))/\Below w.heap.size w w':=by
 by_cases h0:s.size<1
 ·have h0':(s.size:Int)<1:=by omega
  have hr:qR s.data.toList=false:=by unfold qR;rw[bP,decide_eq_false (p:=1<=s.size) (by omega)];rfl
  rw[hr];clear h0 hr;go_enter Tryz.func204,Tryz.ntmps204
  go_wp2_with fail
  go_ret
  exact⟨rfl,Below.refl _ _⟩
 have h0':¬(s.size:Int)<1:=by omega
 by_cases h16:16<s.size
 ·have aa3:(16:Int)<(s.size:Int):=by omega
  have hr:qR s.data.toList=false:=by unfold qR;rw[bP,decide_eq_false (p:=s.size<=16) (by omega)];simp
  rw[hr];clear h0 hr h16;go_enter Tryz.func204,Tryz.ntmps204
  go_wp2_with fail
  go_ret
  exact⟨rfl,Below.refl _ _⟩
 have aa3:¬(16:Int)<(s.size:Int):=by omega
 have hp:0<s.size:=by omega
 have hp':(0:Int)<(s.size:Int):=by omega
 obtain⟨b1,hb1⟩:∃b,j5 (bz s.data.toList 0)=b:=⟨_,rfl⟩
 obtain⟨b2,hb2⟩:∃b,Ip s.data.toList=b:=⟨_,rfl⟩
 obtain⟨k,n,hn⟩:∃k n,gI s.data.toList 0=(k,n):=⟨_,_,rfl⟩
 have hr:qR s.data.toList=(b1&& !b2&&decide (n=s.size)):=by
  unfold qR;rw[bP,hb1,hb2,hn,decide_eq_true (p:=1<=s.size) (by omega),decide_eq_true (p:=s.size<=16) (by omega)];cases b1<;>simp
 rw[hr];have hl:=kT (s[0]'hp).toNat;rw[mZ s 0 hp,hb1,<- mZ s 0 hp]at hl;have hk:=IU s;rw[hb2]at hk
 have ht:∀W,Calls Tryz.prog 180 #[.string s,.int .i64 0] W fun e w'=>e= .returned (.tuple #[.int .i64 (k:Int),.int .i64 (n:Int)])/\Below W.heap.size W w':=fun W=>by
  have:=Nn s 0 W hp (by omega);rw[hn]at this;exact this
 have HL:=kH hl;have HK:=kH hk;have HT:=kH ht;clear hr hb1 hb2 hn hl hk ht h16 h0;go_enter Tryz.func204,Tryz.ntmps204
 go_wp2_with fail
 refine(HL.out w).mono ?_;rintro e w' ⟨rfl,rfl⟩;cases b1
 ·go_wp2_with fail
  go_ret
  exact⟨rfl,Below.refl _ _⟩
 go_wp2_with fail
 refine(HK.out w).mono ?_;rintro e w1 ⟨rfl,hb⟩;cases b2
 case true=>
  go_wp2_with fail
  go_ret
  exact⟨rfl,hb⟩
 go_wp2_with fail
 refine(HT.out w1).mono ?_;rintro e w2 ⟨rfl,hb2⟩;go_wp2_with fail
 go_ret
 refine⟨bH ?_,hb.trans (hb2.mono hb.size)⟩;rw[Bool.eq_iff_iff];simp;omega
theorem Xg(s:ByteArray)(w:World):Calls Tryz.prog 132 #[.string s] w fun e w'=>e= .returned (.tuple #[.int .i64 (((fT s.data.toList).getD 0:Nat):Int),.bool (fT s.data.toList).isSome])/\w=w':=by
 by_cases h9:9<s.size
 ·have YS:¬(s.size:Int)<1:=by omega
  have h9i:(9:Int)<s.size:=by omega
  have hres:fT s.data.toList=none:=by unfold fT;rw[bP,if_pos (.inr h9)]
  rw[hres];clear hres;go_enter Tryz.func132,Tryz.ntmps132
  go_wp2_with fail
  go_ret2
  exact⟨rfl,rfl⟩
 ·exact Mm s w (by omega)
theorem VJ(s:ByteArray)(w:World):Calls Tryz.prog 205 #[.string s] w fun e w'=>e= .returned (.bool (je s))/\w=w':=by
 have hn:=Xg s w;obtain⟨m,hm⟩:∃m,(fT s.data.toList).getD 0=m:=⟨_,rfl⟩
 obtain⟨b1,hb1⟩:∃b,(fT s.data.toList).isSome=b:=⟨_,rfl⟩
 rw[hb1,hm]at hn
 have hp:b1=true->0<s.size:=by
  intro h;rw[h]at hb1;unfold fT at hb1;split at hb1
  ·cases hb1
  ·rename_i h2
   rw[bP]at h2;omega
 have HN:=kH hn;have HB1:=kH hb1;have HP:=kH hp;clear hn hb1 hp hm;cases b1
 ·have hr:je s=false:=by unfold je;rw[HB1.out];rfl
  rw[hr];clear hr;go_enter Tryz.func205,Tryz.ntmps205
  go_wp2_with fail
  refine HN.out.mono ?_;rintro e w1 ⟨rfl,rfl⟩;go_wp2_with fail
  go_ret
  exact⟨rfl,rfl⟩
 ·have hp:=HP.out rfl
  have hp':(0:Int)<(s.size:Int):=by omega
  by_cases h48:s=⟨#[48]⟩
  ·subst h48
   have hr:je ⟨#[48]⟩=true:=by decide
   rw[hr];clear hr;go_enter Tryz.func205,Tryz.ntmps205
   go_wp2_with fail
   refine HN.out.mono ?_;rintro e w1 ⟨rfl,rfl⟩;go_wp2_with fail
   go_ret
   exact⟨rfl,rfl⟩
  ·have Wp:(s.data.toList==[48])=false:=by
    rw[Bool.eq_false_iff];intro h;apply h48
    obtain⟨⟨l⟩⟩:=s;simp at h;rw[h]
   have hs48:(s.toList==[48])=false:=by rw[ByteArray.toList_eq];exact Wp
   have hr:je s=decide (bz s.data.toList 0≠48):=by unfold je;rw[HB1.out,decide_eq_false h48];simp
   rw[hr];have hbz:=mZ s 0 hp;rw[<- hbz];clear hr h48 hbz;go_enter Tryz.func205,Tryz.ntmps205
   go_wp2_with fail
   refine HN.out.mono ?_;rintro e w1 ⟨rfl,rfl⟩;go_wp2_with fail
   go_ret
   exact⟨bH (by rw[Bool.eq_iff_iff];simp;omega),rfl⟩
theorem O0(a b:Array UInt8)(la lb:List UInt8)(ha:a.toList=la)(hb:b.toList=lb)(x:ByteArray):x=⟨a⟩\/x=⟨b⟩\/((x.toList==la)=false/\(x.toList==lb)=false/\x≠⟨a⟩/\x≠⟨b⟩):=by
 by_cases h1:x=⟨a⟩
 ·exact .inl h1
 ·by_cases h2:x=⟨b⟩
  ·exact .inr (.inl h2)
  ·refine .inr (.inr ⟨?_,?_,h1,h2⟩)
   ·rw[beq_eq_false_iff_ne];exact fun h=>h1 (mE (by rw[<- ByteArray.toList_eq,h,<- ha]))
   ·rw[beq_eq_false_iff_ne];exact fun h=>h2 (mE (by rw[<- ByteArray.toList_eq,h,<- hb]))
theorem lits0(x:ByteArray):x=⟨#[]⟩\/(x.toList.isEmpty=false/\(x.toList==[])=false/\x≠⟨#[]⟩):=by
 rcases O0 #[] #[] [] [] rfl rfl x with h|h| ⟨h,-,h2,-⟩
 ·exact .inl h
 ·exact .inl h
 ·refine .inr ⟨?_,h,h2⟩
  cases hx:x.toList with
  | nil=>rw[hx]at h;cases h
  | cons a l=>rfl
theorem Has_bin(x:ByteArray)(W:World)(g:Nat)(hg:W.heap.size=g):Calls Tryz.prog 88 #[.slice (some ⟨g,0,none⟩) 13 13,.string x] (W.alloc (.cells #[.string ⟨#[111,114]⟩,.string ⟨#[97,110,100]⟩,.string ⟨#[61,61]⟩,.string ⟨#[33,61]⟩,.string ⟨#[60]⟩,.string ⟨#[60,61]⟩,.string ⟨#[62]⟩,.string ⟨#[62,61]⟩,.string ⟨#[43]⟩,.string ⟨#[45]⟩,.string ⟨#[42]⟩,.string ⟨#[47]⟩,.string ⟨#[37]⟩] 9)) fun e w'=>e= .returned (.bool (lT Bb x))/\Below W.heap.size W w':=by
 subst hg;refine(yh (some ⟨W.heap.size,0,none⟩) 13 13 Bb x _ (Bv W 9 Bb) rfl (by omega)).mono ?_;rintro e w1 ⟨rfl,hb⟩;exact⟨rfl,(ag _ _).trans (hb.mono (ag _ _).size)⟩
theorem ZR(t:ae)(At:Option Addr)(ct:Nat)(w:World)(h0:0<=t.kind)(BQ:t.kind<=29)(h1:t.kind≠1):
 Calls Tryz.prog 152 #[bD t At ct] w fun e w'=>e= .returned (.bool (lY t.kind t.text))/\Below w.heap.size w w':=by
 obtain⟨k,x,a,z,m,hk,hx,-,-,-,hv⟩:=fq t At ct;rw[hv,hx,hk];rw[hk]at h0 BQ h1;clear hv hk hx;have HN:=kH (fun W:World=>abm x W);have HH:=kH (Has_bin x);have HU:=kH (fun W:World=>VJ x W);have HB:Hid (Below w.heap.size w (w.alloc (.cells #[.int .i64 k,.string x,.int .i64 a,.int .i64 z,.slice At m ct] 24))):=kH (ag _ _);have hc:(k=3\/k=4\/k=5\/k=7\/k=8\/k=12\/k=16\/k=19\/k=20\/k=22\/k=27)\/k=9\/(k=10\/k=24)\/k=25\/k=28\/k=29\/(k=0\/k=2\/k=6\/k=11\/k=13\/k=14\/k=15\/k=17\/k=18\/k=21\/k=23\/k=26):=by omega
 clear h0 BQ h1;rcases hc with hc|rfl|hc|rfl|rfl|rfl|hc
 ·rcases hc with rfl|rfl|rfl|rfl|rfl|rfl|rfl|rfl|rfl|rfl|rfl
  all_goals
   go_enter Tryz.func152,Tryz.ntmps152
   go_wp2_with fail
   refine(HN.out _).mono ?_;rintro e w1 ⟨rfl,hb⟩;go_wp2_with fail
   go_ret
   exact⟨by simp[lY,uF,cO],HB.out.trans (hb.mono HB.out.size)⟩
 ·rcases O0 #[105,110,116] #[98,111,111,108] _ _ rfl rfl x with rfl|rfl| ⟨g1,g2,g3,g4⟩
  rotate_right
  ·go_enter Tryz.func152,Tryz.ntmps152
   go_wp2_with fail
   refine(HN.out _).mono ?_;rintro e w1 ⟨rfl,hb⟩;go_wp2_with fail
   go_ret
   exact⟨by simp[lY,uF,cO, *],HB.out.trans (hb.mono HB.out.size)⟩
  all_goals
   go_enter Tryz.func152,Tryz.ntmps152
   go_wp2_with fail
   go_ret
   exact⟨by simp[lY,uF],HB.out⟩
 ·rcases hc with rfl|rfl
  all_goals
   go_enter Tryz.func152,Tryz.ntmps152
   go_wp2_with fail
   refine(HU.out _).mono ?_;rintro e w1 ⟨rfl,rfl⟩;go_wp2_with fail
   go_ret
   exact⟨by simp[lY,uF],HB.out⟩
 ·rcases O0 #[116,114,117,101] #[102,97,108,115,101] _ _ rfl rfl x with rfl|rfl| ⟨g1,g2,g3,g4⟩
  all_goals
   go_enter Tryz.func152,Tryz.ntmps152
   go_wp2_with fail
   go_ret
   exact⟨by simp[lY,uF, *],HB.out⟩
 ·rcases O0 #[45] #[110,111,116] _ _ rfl rfl x with rfl|rfl| ⟨g1,g2,g3,g4⟩
  all_goals
   go_enter Tryz.func152,Tryz.ntmps152
   go_wp2_with fail
   go_ret
   exact⟨by simp[lY,uF, *],HB.out⟩
 ·go_enter Tryz.func152,Tryz.ntmps152
  go_wp2_with fail
  refine(HH.out (w.alloc _) (w.heap.size+1) (by simp)).mono ?_;rintro e w1 ⟨rfl,hb⟩;go_wp2_with fail
  go_ret
  exact⟨by simp[lY,uF],HB.out.trans (hb.mono HB.out.size)⟩
 ·rcases hc with rfl|rfl|rfl|rfl|rfl|rfl|rfl|rfl|rfl|rfl|rfl|rfl
  all_goals rcases lits0 x with rfl| ⟨g1,g2,g3⟩
  all_goals
   go_enter Tryz.func152,Tryz.ntmps152
   go_wp2_with fail
   go_ret
   exact⟨by simp[lY,uF, *],HB.out⟩
theorem aaj(k:Int):(uG k).2<=4096:=by
 unfold uG;repeat' split
 all_goals decide
theorem PI{k:Int}{kids:List ae}{i:Nat}{u:ae}(hu:kids[i]? =some u):nW k i (kids.drop i)=(ky k i u.kind u.text&&tT u&&nW k (i+1) (kids.drop (i+1))):=by
 obtain⟨hlt,he⟩:=abK.1 hu;rw[List.drop_eq_getElem_cons hlt,he,nW]
theorem Zg:∀(m:Nat) (t:ae) (A:Option Addr) (c:Nat) (w:World),au t<=m->m<=1000000000000->aK w w.heap.size A 0 t.kids ->
 Calls Tryz.prog 83 #[bD t A c] w fun e w'=>e= .returned (.bool (tT t))/\Below w.heap.size w w':=by
 intro m
 induction m with
 | zero=>
  intro t A c w h;have:=sO t;omega
 | succ m ih=>
  rintro⟨k,x,a,z,kids⟩ A c w hm hbig hk
  have hcm:aG kids<=m:=by
   have:au (.node k x a z kids)=1+aG kids:=rfl;omega
  have hk:aK w w.heap.size A 0 kids:=hk;have htx:=fun h0 BQ h1 (W:World)=>ZR (.node k x a z kids) A c W h0 BQ h1
  have hkd:=fun(i:Nat) (hi:i<=1000000) u At ct (W:World) h0 BQ h1=>kid_any k i hi u At ct W h0 BQ h1
  rw[show tT (.node k x a z kids)=(qU k x kids.length&&nW k 0 kids) by rw[tT]];change Calls Tryz.prog 83 #[.agg #[.int .i64 k,.string x,.int .i64 a,.int .i64 z,.slice A kids.length c]] w _;change ∀(h0:0<=k) (BQ:k<=29) (h1:k≠1) (W:World),Calls Tryz.prog 152 #[.agg #[.int .i64 k,.string x,.int .i64 a,.int .i64 z,.slice A kids.length c]] W fun e w'=>e= .returned (.bool (lY k x))/\Below W.heap.size W w' at htx
  obtain⟨n,hn⟩:∃x,kids.length=x:=⟨_,rfl⟩
  rw[hn]at htx⊢;obtain⟨r,hr⟩:∃b,(qU k x n&&nW k 0 kids)=b:=⟨_,rfl⟩
  rw[hr];have AO:Hid (Below w.heap.size w (w.alloc (.cells #[.int .i64 k,.string x,.int .i64 a,.int .i64 z,.slice A n c] 24))):=kH (ag _ _);by_cases h0:k<0
  ·have hrf:r=false:=by rw[<- hr];unfold qU;rw[decide_eq_false (p:=0<=k) (by omega)];rfl
   subst hrf;clear hr htx hkd ih hk;go_enter Tryz.func83,Tryz.ntmps83
   go_wp2_with fail
   go_ret
   exact⟨rfl,AO.out⟩
  by_cases h1:k=1
  ·subst h1
   have hrf:r=false:=by rw[<- hr];unfold qU;simp
   subst hrf;clear hr htx hkd ih hk;go_enter Tryz.func83,Tryz.ntmps83
   go_wp2_with fail
   go_ret
   exact⟨rfl,AO.out⟩
  have h1b:(k==1)=false:=by simpa using h1
  by_cases BQ:29<k
  ·have hrf:r=false:=by rw[<- hr];unfold qU;rw[decide_eq_false (p:=k<=29) (by omega)];simp
   subst hrf;clear hr htx hkd ih hk h1;go_enter Tryz.func83,Tryz.ntmps83
   go_wp2_with fail
   go_ret
   exact⟨rfl,AO.out⟩
  have htx:=htx (by omega) (by omega) h1;have hmo:=fun W:World=>aai k (by omega) (by omega) W
  have hkd:=fun(i:Nat) (hi:i<=1000000) u At ct (W:World)=>hkd i hi u At ct W (by omega) (by omega) h1
  have hq:=aaj k
  have hrr:r=(lY k x&&decide ((uG k).1<=n)&&decide (n<=(uG k).2)&&nW k 0 kids):=by
   rw[<- hr];unfold qU;rw[decide_eq_true (p:=0<=k) (by omega),decide_eq_false h1,decide_eq_true (p:=k<=29) (by omega)];simp
  obtain⟨tb,htb⟩:∃b,lY k x=b:=⟨_,rfl⟩
  obtain⟨p,q,hpq⟩:∃p q,uG k=(p,q):=⟨_,_,rfl⟩
  rw[htb]at htx hrr;rw[hpq]at hmo hrr hq;change ∀W:World,Calls Tryz.prog 153 #[.int .i64 k] W fun e w'=>e= .returned (.tuple #[.int .i64 (p:Int),.int .i64 (q:Int)])/\W=w' at hmo
  change r=(tb&&decide (p<=n)&&decide (n<=q)&&nW k 0 kids) at hrr;have hq:q<=4096:=hq;have Ow:=kH htx;have HMO:=kH hmo;have qG:=kH hkd;have HK:=kH hk;have HN:=kH hn;have fD:=kH ih;have HM:Hid (aG kids<=m/\m<=1000000000000):=kH ⟨hcm,by omega⟩;clear hr htx hmo hkd hk hn ih hcm hbig hm htb hpq h1;go_enter Tryz.func83,Tryz.ntmps83
  go_wp2_with fail
  generalize hW1:w.alloc (.cells #[.int .i64 k,.string x,.int .i64 a,.int .i64 z,.slice A n c] 24)=W1
  have gJ:ai W1 w.heap.size 24 #[.int .i64 k,.string x,.int .i64 a,.int .i64 z,.slice A n c]:=by rw[<- hW1];exact ai.new w _ _
  rw[hW1]at AO;have HR1:=kH gJ;clear hW1 gJ;refine(Ow.out _).mono ?_;rintro e w1 ⟨rfl,hb1⟩;have HB1:=kH (AO.out.trans (hb1.mono AO.out.size));have hR2:=HR1.out.below hb1 HR1.out.lt;have c0:w1.cell? ⟨w.heap.size,0,none⟩=some (.int .i64 k):=hR2.cell 0;have c4:w1.cell? ⟨w.heap.size,4,none⟩=some (.slice A n c):=hR2.cell 4;have hl2:=hR2.lt;have HR2:=kH hR2;have HK1:=kH (aK.below HB1.out (abE _) _ _ _ HK.out);clear hb1 hR2 HR1 AO Ow
  cases tb with
  | false=>
   have hrf:r=false:=by rw[hrr];rfl
   subst hrf;clear hrr;go_wp2_with fail
   go_ret
   exact⟨rfl,HB1.out⟩
  | true=>
  go_wp2_with fail
  refine(HMO.out _).mono ?_;rintro e w' ⟨rfl,rfl⟩;by_cases hp:n<p
  ·have hpi:(n:Int)<(p:Int):=by omega
   have hrf:r=false:=by rw[hrr,decide_eq_false (p:=p<=n) (by omega)];rfl
   subst hrf;clear hrr;go_wp2_with fail
   go_ret
   exact⟨rfl,HB1.out⟩
  have hpi:¬(n:Int)<(p:Int):=by omega
  by_cases hqn:q<n
  ·have hqi:(q:Int)<(n:Int):=by omega
   have hrf:r=false:=by rw[hrr,decide_eq_false (p:=n<=q) (by omega)];simp
   subst hrf;clear hrr;go_wp2_with fail
   go_ret
   exact⟨rfl,HB1.out⟩
  have hqi:¬(q:Int)<(n:Int):=by omega
  have hrs:r=nW k 0 kids:=by rw[hrr,decide_eq_true (p:=p<=n) (by omega),decide_eq_true (p:=n<=q) (by omega)];simp
  have hn4:n<=4096:=by omega
  have HRS:=kH hrs;clear hrr hrs hq;go_wp2_with fail
  go_loopg [5] n (fun gk s5 wr=> ∃i:Nat,i+gk=n/\s5= .int .i64 (i:Int)/\Below w1.heap.size w1 wr/\r=nW k i (kids.drop i))
  case atStart=>exact⟨0,by omega,rfl,Below.refl _ _,HRS.out⟩
  case round=>
   obtain⟨i,hi,rfl,hB,hri⟩:=hrel;have hRr:=HR2.out.below hB hl2;have r0:wr.cell? ⟨w.heap.size,0,none⟩=some (.int .i64 k):=hRr.cell 0;have r4:wr.cell? ⟨w.heap.size,4,none⟩=some (.slice A n c):=hRr.cell 4;have hlr:=hRr.lt;have HRr:=kH hRr;have HB:=kH hB;have HI:=kH hi;have HRI:=kH hri;have hin:i<=n:=by omega
   clear hB hRr hi hri c0 c4;by_cases hlt:i<n
   ·have hlt':(i:Int)<(n:Int):=by omega
    have hi0:¬((i:Int)<0):=by omega
    obtain⟨u,hu⟩:∃u,kids[i]? =some u:=⟨_,abI (by rw[HN.out];exact hlt)⟩
    obtain⟨vals,⟨b,off,hA,hbl,hcs⟩,hT⟩:=HK1.out.get i u hu;obtain⟨A',c',lQ,hK'⟩:=hT.five;subst hA;subst lQ;have hbW:b<w1.heap.size:=by omega
    have hcell:∀W,Below wr.heap.size wr W->W.cell? ⟨w.heap.size,0,none⟩=some (.int .i64 k)/\W.cell? ⟨w.heap.size,4,none⟩=some (.slice (some ⟨b,off,none⟩) n c)/\W.cell? ⟨b,off+i*5,none⟩=some (.int .i64 u.kind)/\W.cell? ⟨b,off+i*5+1,none⟩=some (.string u.text)/\W.cell? ⟨b,off+i*5+2,none⟩=some (.int .i64 u.at_)/\W.cell? ⟨b,off+i*5+3,none⟩=some (.int .i64 u.end_)/\W.cell? ⟨b,off+i*5+4,none⟩=some (.slice A' u.kids.length c'):=fun W hb=>by
     have hBW:=HB.out.trans (hb.mono HB.out.size);have hh:=HR2.out.below hBW hl2;have e:=fun j v (hj:[Value.int .i64 u.kind,.string u.text,.int .i64 u.at_,.int .i64 u.end_,.slice A' u.kids.length c'][j]? =some v)=>(hBW.cell (p:=⟨b,_,none⟩) hbW).trans (hcs j v hj)
     exact⟨hh.cell 0,hh.cell 4,by simpa using e 0 _ rfl,by simpa using e 1 _ rfl,by simpa using e 2 _ rfl,by simpa using e 3 _ rfl,by simpa using e 4 _ rfl⟩
    have htk:=jl kids i u hu;have hle:=kg kids (i+1);have hsh:=PI (k:=k) hu;have hcall:=fun W (hb:Below wr.heap.size wr W)=>fD.out u A' c' W (by have:=HM.out;omega) HM.out.2 (aK.mono (B:=w.heap.size) (by have:=HB1.out.size;have:=HB.out.size;have:=hb.size;omega) _ _ _ (aK.below (HB.out.trans (hb.mono HB.out.size)) (by have:=HB1.out.size;omega) _ _ _ hK'))
    have xX:=fun W:World=>qG.out i (by omega) u A' c' W
    obtain⟨kb,hkb⟩:∃y,ky k i u.kind u.text=y:=⟨_,rfl⟩
    obtain⟨sb,hsb⟩:∃y,tT u=y:=⟨_,rfl⟩
    rw[hkb]at xX;rw[hsb]at hcall;rw[hkb,hsb]at hsh;unfold bD at hcall xX;have HC:=kH hcall;have HKI:=kH xX;have Uy:=kH (HRI.out.trans hsh);have hwr:IntKind.i64.wrap ((i:Int)+1)=(i:Int)+1:=IntWalk.i64_in _ (by omega);have EB:=kH hcell;obtain⟨un,hun⟩:∃q,u.kids.length=q:=⟨_,rfl⟩
    obtain⟨uk,AA⟩:∃q,u.kind=q:=⟨_,rfl⟩
    obtain⟨ux,Ay⟩:∃q,u.text=q:=⟨_,rfl⟩
    obtain⟨ua,Da⟩:∃q,u.at_=q:=⟨_,rfl⟩
    obtain⟨ue,hue⟩:∃q,u.end_=q:=⟨_,rfl⟩
    rw[hun,AA,Ay,Da,hue]at HC HKI EB;clear hcs hT hK' htk hle hcall hu hun AA Ay Da hue xX hsh hcell hkb hsb;have hd1:Below wr.heap.size wr wr.drew:=(Below.refl _ _).drew;have hS0:=EB.out _ hd1;go_wp2_with fail
    cases kb with
    | false=>
     have hrf:r=false:=by rw[Uy.out];rfl
     subst hrf;refine dZ (fun W=>W.cell? ⟨w.heap.size,0,none⟩=some (.int .i64 k)/\W.cell? ⟨w.heap.size,4,none⟩=some (.slice (some ⟨b,off,none⟩) n c)/\W.cell? ⟨b,off+i*5,none⟩=some (.int .i64 uk)/\W.cell? ⟨b,off+i*5+1,none⟩=some (.string ux)/\W.cell? ⟨b,off+i*5+2,none⟩=some (.int .i64 ua)/\W.cell? ⟨b,off+i*5+3,none⟩=some (.int .i64 ue)/\W.cell? ⟨b,off+i*5+4,none⟩=some (.slice A' un c')) [] [true,true,true,true,true,true,true,true,false,true,true,true,true,true,true,true,true,true,true] (by kernel_rfl) (by kernel_rfl) rfl (by kernel_rfl) ?_;iterate 8((first|(refine eG (by rfl) hS0 ?_)|(refine dz (by rfl) hS0 (by intro w' hSw;obtain⟨hs1,hs2,hs3,hs4,hs5,hs6,hs7⟩:=hSw;go_simp;rfl) ?_));simp only[Act.put,sA,sZ,sC])
     refine gm (by rfl) (by go_simp) ((HKI.out _).mono ?_);rintro e4 w4 ⟨rfl,hb4⟩;have dO:Below wr.heap.size wr w4:=hd1.trans (hb4.mono hd1.size);have tK:=EB.out _ dO;refine⟨_,rfl,fun _=>tK,?_⟩;iterate 10(simp only[Act.put,sA,sZ,sC];(first|(refine eG (by rfl) tK ?_)|(refine dz (by rfl) tK (by intro w' hSw;obtain⟨hs1,hs2,hs3,hs4,hs5,hs6,hs7⟩:=hSw;go_simp;rfl) ?_)))
     simp only[Act.put,sA,sZ,sC];refine iU ?_;go_wp2_with fail
     go_ret
     exact⟨rfl,HB1.out.trans ((HB.out.trans (dO.mono HB.out.size)).mono HB1.out.size)⟩
    | true=>
     refine dZ (fun W=>W.cell? ⟨w.heap.size,0,none⟩=some (.int .i64 k)/\W.cell? ⟨w.heap.size,4,none⟩=some (.slice (some ⟨b,off,none⟩) n c)/\W.cell? ⟨b,off+i*5,none⟩=some (.int .i64 uk)/\W.cell? ⟨b,off+i*5+1,none⟩=some (.string ux)/\W.cell? ⟨b,off+i*5+2,none⟩=some (.int .i64 ua)/\W.cell? ⟨b,off+i*5+3,none⟩=some (.int .i64 ue)/\W.cell? ⟨b,off+i*5+4,none⟩=some (.slice A' un c')) [] [true,true,true,true,true,true,true,true,false,true,true,true,true,true,true,true,false,true,true] (by kernel_rfl) (by kernel_rfl) rfl (by kernel_rfl) ?_;iterate 8((first|(refine eG (by rfl) hS0 ?_)|(refine dz (by rfl) hS0 (by intro w' hSw;obtain⟨hs1,hs2,hs3,hs4,hs5,hs6,hs7⟩:=hSw;go_simp;rfl) ?_));simp only[Act.put,sA,sZ,sC])
     refine gm (by rfl) (by go_simp) ((HKI.out _).mono ?_);rintro e4 w4 ⟨rfl,hb4⟩;have dO:Below wr.heap.size wr w4:=hd1.trans (hb4.mono hd1.size);have tK:=EB.out _ dO;refine⟨_,rfl,fun _=>tK,?_⟩;iterate 7(simp only[Act.put,sA,sZ,sC];(first|(refine eG (by rfl) tK ?_)|(refine dz (by rfl) tK (by intro w' hSw;obtain⟨hs1,hs2,hs3,hs4,hs5,hs6,hs7⟩:=hSw;go_simp;rfl) ?_)))
     simp only[Act.put,sA,sZ,sC];refine gm (by rfl) (by go_simp) ((HC.out _ dO).mono ?_);rintro e5 w5 ⟨rfl,hb5⟩;have pQ:Below wr.heap.size wr w5:=dO.trans (hb5.mono dO.size);have hS5:=EB.out _ pQ;refine⟨_,rfl,fun _=>hS5,?_⟩;iterate 2(simp only[Act.put,sA,sZ,sC];(first|(refine eG (by rfl) hS5 ?_)|(refine dz (by rfl) hS5 (by intro w' hSw;obtain⟨hs1,hs2,hs3,hs4,hs5,hs6,hs7⟩:=hSw;go_simp;rfl) ?_)))
     simp only[Act.put,sA,sZ,sC];refine iU ?_;have hbw:=HB.out.trans (pQ.mono HB.out.size);have qf:=kH hbw;clear hb4 hb5 dO pQ hS0 tK hS5 hd1 hbw
     cases sb with
     | false=>
      have hrf:r=false:=by rw[Uy.out];rfl
      subst hrf;go_wp2_with fail
      go_ret
      exact⟨rfl,HB1.out.trans (qf.out.mono HB1.out.size)⟩
     | true=>
      go_wp2_with fail
      go_roundg (gk - 1)
      case measure=>have:=HI.out;omega
      case rel=>exact⟨i+1,by have:=HI.out;omega,by simp,qf.out,by rw[Uy.out];simp⟩
   ·have hie:i=n:=by omega
    have hres:r=true:=by rw[HRI.out,hie,<- HN.out,List.drop_length,nW]
    subst hres;go_wp2_with fail
    go_ret
    exact⟨rfl,HB1.out.trans (HB.out.mono HB1.out.size)⟩
theorem Vb(t:ae)(A:Option Addr)(c:Nat)(w:World)(hm:au t<=4096)(hk:aK w w.heap.size A 0 t.kids):
 Calls Tryz.prog 42 #[bD t A c] w fun e w'=>e= .returned (.bool (iJ t))/\Below w.heap.size w w':=by
 obtain⟨k,x,a,z,m,hk0,-,-,-,-,kX⟩:=fq t A c;have hb0:=ag w (.cells #[.int .i64 k,.string x,.int .i64 a,.int .i64 z,.slice A m c] 24);have hsh:=Zg (au t) t A c (w.alloc (.cells #[.int .i64 k,.string x,.int .i64 a,.int .i64 z,.slice A m c] 24)) (abE _) (by omega) (aK.mono (by simp) _ _ _ (aK.below hb0 (abE _) _ _ _ hk));have Co:=hsh.mono (R':=fun e w'=>e= .returned (.bool (fJ t))/\Below w.heap.size w w') (fun e w' ⟨h1,h2⟩=>⟨by rw[<- Hq t hm];exact h1,hb0.trans (h2.mono (by simp))⟩);obtain⟨q,hq⟩:∃q,iJ t=q:=⟨_,rfl⟩
 rw[kX]at Co⊢;rw[hq];unfold iJ at hq;obtain⟨sb,hsb⟩:∃q,fJ t=q:=⟨_,rfl⟩
 rw[hsb]at Co hq;rw[hk0]at hq;have HB0:=kH hb0;have HQ:=kH hq;clear hk hsh hk0 hsb hq hm hb0 kX;by_cases h2:k=2
 ·subst h2
  go_enter Tryz.func42,Tryz.ntmps42
  go_wp2_with fail
  refine Co.mono ?_;rintro e w2 ⟨rfl,hb⟩;go_wp2_with fail
  go_ret
  exact⟨Ah (by rw[<- HQ.out];simp),hb⟩
 ·clear Co
  go_enter Tryz.func42,Tryz.ntmps42
  go_wp2_with fail
  go_ret
  exact⟨Ah (by rw[<- HQ.out];simp[h2]),HB0.out⟩
theorem fin_all{t:ae}(hv:iJ t=true)(mk:Int):(En t mk).ds=(bS t).ds/\(En t mk).uses=(bS t).uses/\(En t mk).list=(bS t).aW.map (·.2) /\
 ∀m:Nat,mk=(m:Int)->m<au t->bG (bS t).aS (m:Int)=if oQ t.kids 1 m=true then some ((En t mk).at_.map fun(i:Nat)=>(i:Int)) else none:=by
 obtain⟨W,hW,h1,h2,h3,h4⟩:=ZL hv mk;have hr:MO t mk=W:=hW;unfold En;rw[hr];exact⟨h1,h3,h2,h4⟩
def M5(t:ae)(w:World)(e:Ending)(w':World):Prop:=
 (iJ t=false/\e= .returned (.tuple #[.agg #[.slice none 0 0,.slice none 0 0],.slice none 0 0,.int .i64 1])/\Below w.heap.size w w') \/
 (iJ t=true/\∃dA dc uA uc lA lc,e= .returned (.tuple #[.agg #[.slice dA (bS t).ds.length dc,.slice uA (bS t).uses.length uc],.slice lA (bS t).aW.length lc,.int .i64 0])/\bN 4 cB w' w'.heap.size dA (bS t).ds/\bN 1 fO w' w'.heap.size uA (bS t).uses/\bN 5 bC w' w'.heap.size lA ((bS t).aW.map (·.2))/\Below w.heap.size w w')
theorem Qc(t:ae)(A:Option Addr)(c:Nat)(w:World)(hN:au t<=4096)(hcap:t.kids.length<=c)(hk:aK w w.heap.size A 0 t.kids):
 Calls Tryz.prog 13 #[bD t A c] w (M5 t w):=by
 obtain⟨k0,x0,a0,z0,n0,-,-,-,-,-,kX⟩:=fq t A c;obtain⟨W1,hW1⟩:∃W1,(w.alloc (.cells #[.int .i64 k0,.string x0,.int .i64 a0,.int .i64 z0,.slice A n0 c] 24)).alloc (.cells #[.slice none 0 0,.slice none 0 0] 30)=W1:=⟨_,rfl⟩
 have hnb:ai W1 w.heap.size 24 #[.int .i64 k0,.string x0,.int .i64 a0,.int .i64 z0,.slice A n0 c]:=by rw[<- hW1];exact(ai.new w _ _).alloc _
 have hrb:ai W1 (w.heap.size+1) 30 #[.slice none 0 0,.slice none 0 0]:=by
  rw[<- hW1];have:=ai.new (w.alloc (.cells #[.int .i64 k0,.string x0,.int .i64 a0,.int .i64 z0,.slice A n0 c] 24)) 30 #[.slice none 0 0,.slice none 0 0];simpa using this
 have hb1:Below w.heap.size w W1:=by rw[<- hW1];exact(ag w _).trans ((ag _ _).mono (by simp))
 have hval:=Vb t A c W1 hN (aK.mono hb1.size _ _ _ (aK.below hb1 (abE _) _ _ _ hk));rw[kX]at hval⊢;obtain⟨vb,hvb⟩:∃q,iJ t=q:=⟨_,rfl⟩
 rw[hvb]at hval;have Gq:=kH hval;have vW:=kH hvb;have lD:=kH hnb;have dH:=kH hrb;have HB1:=kH hb1;have BV:=kH kX;have HCAP:=kH hcap;have HK:=kH hk;have m0:=hnb.cell 0;have m1:=hnb.cell 1;have m2:=hnb.cell 2;have m3:=hnb.cell 3;have m4:=hnb.cell 4;have lm:=hnb.lt;clear hval hvb hnb hrb hb1 kX hcap hk;go_enter Tryz.func13,Tryz.ntmps13
 go_wp2_with fail
 clear hW1 m0 m1 m2 m3 m4 lm;refine Gq.out.mono ?_;rintro e2 w2 ⟨rfl,hb2⟩;have HB2:Hid (Below w.heap.size w w2):=kH (HB1.out.trans (hb2.mono HB1.out.size));have qj:=kH (lD.out.below hb2 lD.out.lt);have vN:=kH (dH.out.below hb2 dH.out.lt);clear hb2
 cases vb with
 | false=>
  have r0:=vN.out.cell 0;have r1:=vN.out.cell 1;have g0:=vN.out.frozen 0;have g1:=vN.out.frozen 1;have lr:=vN.out.lt;go_wp2_with fail
  try simp only[Exit.inBlock,Exit.then]
  refine bodyPost_ret (v:=.tuple #[.agg #[.slice none 0 0,.slice none 0 0],.slice none 0 0,.int .i64 1]) (by simp[results,Tryz.results13,go_sem,r0,r1]) rfl ?_;exact .inl ⟨vW.out,rfl,(HB2.out.setCell (p:=⟨w.heap.size+1,0,none⟩) (by show w.heap.size<=w.heap.size+1;omega) _).setCell (p:=⟨w.heap.size+1,1,none⟩) (by show w.heap.size<=w.heap.size+1;omega) _⟩
 | true=>
  have hres:=PX t A c (-1) w2 (by omega) HCAP.out (aK.mono HB2.out.size _ _ _ (aK.below HB2.out (abE _) _ _ _ HK.out));rw[BV.out]at hres;have aM:=kH hres;have iw:=kH (fin_all vW.out (-1));have m0:=qj.out.cell 0;have m1:=qj.out.cell 1;have m2:=qj.out.cell 2;have m3:=qj.out.cell 3;have m4:=qj.out.cell 4;have lm:=qj.out.lt;clear hres;go_wp2_with fail
  clear m0 m1 m2 m3 m4 lm;refine aM.out.mono ?_;rintro e3 w3 ⟨E,V,rfl,BO,bT,hb3⟩;have DZ:=vN.out.below hb3 vN.out.lt;have hB3:Below w.heap.size w w3:=HB2.out.trans (hb3.mono HB2.out.size);obtain⟨F,hF⟩:∃F,En t (-1)=F:=⟨_,rfl⟩
  rw[hF]at bT iw;obtain⟨nd,hnd⟩:∃q,F.ds.length=q:=⟨_,rfl⟩
  obtain⟨nu,hnu⟩:∃q,F.uses.length=q:=⟨_,rfl⟩
  obtain⟨nl,hnl⟩:∃q,F.list.length=q:=⟨_,rfl⟩
  have c0:w3.cell? ⟨E.rp,0,none⟩=some (.slice V.dA nd V.dc):=by rw[<- hnd];exact bT.blk.cell 0
  have c1:w3.cell? ⟨E.rp,1,none⟩=some (.slice E.uA nu E.uc):=by rw[<- hnu];exact bT.blk.cell 1
  have c2:w3.cell? ⟨E.rp,2,none⟩=some (.slice V.lA nl V.lc):=by rw[<- hnl];exact bT.blk.cell 2
  have lr:=bT.blk.lt;have r0:=DZ.cell 0;have r1:=DZ.cell 1;have g0:=DZ.frozen 0;have g1:=DZ.frozen 1;have lb:=DZ.lt
  have hne:E.rp≠w.heap.size+1:=fun e=>by
   have h1:w3.heap[E.rp]? =some (Obj.cells _ _ (0,0)):=bT.blk;have h2:w3.heap[w.heap.size+1]? =some (Obj.cells _ _ (0,0)):=DZ;rw[e,h2]at h1;simp at h1
  have hss:aF (fun g=>g=w.heap.size+1) w3 ((w3.drew.setCell ⟨w.heap.size+1,0,none⟩ (.slice V.dA nd V.dc)).setCell ⟨w.heap.size+1,1,none⟩ (.slice E.uA nu E.uc)):=
   aF.setCell (S:=fun g=>g=w.heap.size+1) (aF.setCell (S:=fun g=>g=w.heap.size+1) ((aF.refl _ w3).drew) (p:=⟨w.heap.size+1,0,none⟩) (.inl rfl) _) (p:=⟨w.heap.size+1,1,none⟩) (.inl rfl) _
  have how:∀{B e size v n xs},aL w3 B e size v n xs->30≠e->aL ((w3.drew.setCell ⟨w.heap.size+1,0,none⟩ (.slice V.dA nd V.dc)).setCell ⟨w.heap.size+1,1,none⟩ (.slice E.uA nu E.uc)) B e size v n xs:=fun ha hx=>ha.since hss (fun q hq h1=>ha.bZ DZ hx.symm (by rw[hq,h1]))
  have hd:=how bT.ds (by decide);have hu:=how bT.us (by decide);have hl:=how bT.ls (by decide)
  have YP:Below w.heap.size w ((w3.drew.setCell ⟨w.heap.size+1,0,none⟩ (.slice V.dA nd V.dc)).setCell ⟨w.heap.size+1,1,none⟩ (.slice E.uA nu E.uc)):=
   ((hB3.drew).setCell (p:=⟨w.heap.size+1,0,none⟩) (by show w.heap.size<=w.heap.size+1;omega) _).setCell (p:=⟨w.heap.size+1,1,none⟩) (by show w.heap.size<=w.heap.size+1;omega) _
  have hbz:=(DZ.drew.fM 0 (.slice V.dA nd V.dc)).fM 1 (.slice E.uA nu E.uc);have EX:Hid (ai ((w3.drew.setCell ⟨w.heap.size+1,0,none⟩ (.slice V.dA nd V.dc)).setCell ⟨w.heap.size+1,1,none⟩ (.slice E.uA nu E.uc)) (w.heap.size+1) 30 #[.slice V.dA nd V.dc,.slice E.uA nu E.uc]):=kH (by simpa using hbz)
  have aO:Hid (M5 t w (.returned (.tuple #[.agg #[.slice V.dA nd V.dc,.slice E.uA nu E.uc],.slice V.lA nl V.lc,.int .i64 0])) ((w3.drew.setCell ⟨w.heap.size+1,0,none⟩ (.slice V.dA nd V.dc)).setCell ⟨w.heap.size+1,1,none⟩ (.slice E.uA nu E.uc))):=kH (by
   obtain⟨f1,f2,f3,-⟩:=iw.out;have g1:=hd.rowAt (cells:=cB) (l:=F.ds) rfl rfl (fun _ _=>rfl) rfl;have g2:=hu.rowAt (cells:=fO) (l:=F.uses) rfl (by unfold gY;rw[<- List.flatMap_singleton' (F.uses.map _),List.flatMap_map];rfl) (fun _ _=>rfl) rfl;have g3:=hl.rowAt (cells:=bC) (l:=F.list) rfl rfl (fun _ _=>rfl) rfl;rw[f1]at g1;rw[f2]at g2;rw[f3]at g3
   exact .inr ⟨vW.out,V.dA,V.dc,E.uA,E.uc,V.lA,V.lc,by rw[<- hnd,<- hnu,<- hnl,f1,f2,f3,List.length_map],g1,g2,g3,YP⟩)
  clear hd hu hl YP hbz hss how hnd hnu hnl bT DZ hB3 hb3 BO hF iw aM;go_wp2_with fail
  refine dY (fun w'=>w'.cell? ⟨E.rp,0,none⟩=some (.slice V.dA nd V.dc)/\w'.cell? ⟨E.rp,1,none⟩=some (.slice E.uA nu E.uc)/\w'.cell? ⟨E.rp,2,none⟩=some (.slice V.lA nl V.lc)) [] [true,true,true,true,true,true,true,true,false,false,false] (by kernel_rfl) (by kernel_rfl) rfl (by kernel_rfl) ?_;have hS0:w3.drew.cell? ⟨E.rp,0,none⟩=some (.slice V.dA nd V.dc)/\w3.drew.cell? ⟨E.rp,1,none⟩=some (.slice E.uA nu E.uc)/\w3.drew.cell? ⟨E.rp,2,none⟩=some (.slice V.lA nl V.lc):=⟨c0,c1,c2⟩
  iterate 8(refine gP rfl hS0 (by intro w' hSw;obtain⟨hs1,hs2,hs3⟩:=hSw;go_simp;rfl) ?_;simp only[Act.put,sA,sZ,sC])
  refine gZ (w':=(w3.drew.setCell ⟨w.heap.size+1,0,none⟩ (.slice V.dA nd V.dc)).setCell ⟨w.heap.size+1,1,none⟩ (.slice E.uA nu E.uc)) rfl (by go_simp) (fun _=>⟨by go_simp,by go_simp,by go_simp⟩) ?_;simp only[Act.put];iterate 2(refine gH (w':=(w3.drew.setCell ⟨w.heap.size+1,0,none⟩ (.slice V.dA nd V.dc)).setCell ⟨w.heap.size+1,1,none⟩ (.slice E.uA nu E.uc)) rfl (by go_simp;rfl) (fun _=>⟨by go_simp,by go_simp,by go_simp⟩) ?_;simp only[Act.put,sA,sZ,sC])
  refine iT ?_;clear hS0 r0 r1 g0 g1 c0 c1 c2;generalize (w3.drew.setCell ⟨w.heap.size+1,0,none⟩ (.slice V.dA nd V.dc)).setCell ⟨w.heap.size+1,1,none⟩ (.slice E.uA nu E.uc)=WZ at aO EX⊢
  have r0:=EX.out.cell 0;have r1:=EX.out.cell 1;go_wp2_with fail
  try simp only[Exit.inBlock,Exit.then]
  refine bodyPost_ret (v:=.tuple #[.agg #[.slice V.dA nd V.dc,.slice E.uA nu E.uc],.slice V.lA nl V.lc,.int .i64 0]) (by simp[results,Tryz.results13,go_sem,r0,r1]) rfl ?_;exact aO.out
end Go.Proofs.YtoepemlnlpamlaaGreat
