/- The law NamesStand holds: for every text and every number the law returns true, and its arguments read as before. No condition. Part 16: LexN LexO Shp1 Sort NamW Nam1. -/
import Derived.Laws.IdiomStrings
import Derived.Deep.QuietTactic
import Derived.Test.YtoepemlnlpamlaaGreatStand01
import Derived.Test.YtoepemlnlpamlaaGreatStand02
import Derived.Test.YtoepemlnlpamlaaGreatStand15
set_option maxRecDepth 100000
set_option maxHeartbeats 4000000
namespace Go.Proofs.YtoepemlnlpamlaaGreat
open Go.RowKit
theorem GI(c:Nat)(w:World):Calls Tryz.prog 91 #[.int .u8 (c:Int)] w fun e w'=>e= .returned (.bool (lH c))/\w=w':=by
 by_cases h1:97<=c
 ·have h1':(97:Int)<=(c:Int):=by omega
  by_cases h2:c<=122
  ·have h2':(c:Int)<=122:=by omega
   go_enter Tryz.func91,Tryz.ntmps91
   go_wp2
   go_ret
   exact⟨bQ (by simp[lH,h1,h2]),rfl⟩
  ·have h2':¬(c:Int)<=122:=by omega
   go_enter Tryz.func91,Tryz.ntmps91
   go_wp2
   go_ret
   exact⟨bQ (by simp[lH,h1,h2]),rfl⟩
 ·have h1':¬(97:Int)<=(c:Int):=by omega
  go_enter Tryz.func91,Tryz.ntmps91
  go_wp2
  go_ret
  exact⟨bQ (by simp[lH,h1]),rfl⟩
theorem Kw(c:Nat)(w:World):Calls Tryz.prog 95 #[.int .u8 (c:Int)] w fun e w'=>e= .returned (.bool (fZ c))/\w=w':=by
 by_cases h1:48<=c
 ·have h1':(48:Int)<=(c:Int):=by omega
  by_cases h2:c<=57
  ·have h2':(c:Int)<=57:=by omega
   go_enter Tryz.func95,Tryz.ntmps95
   go_wp2
   go_ret
   exact⟨bQ (by simp[fZ,h1,h2]),rfl⟩
  ·have h2':¬(c:Int)<=57:=by omega
   go_enter Tryz.func95,Tryz.ntmps95
   go_wp2
   go_ret
   exact⟨bQ (by simp[fZ,h1,h2]),rfl⟩
 ·have h1':¬(48:Int)<=(c:Int):=by omega
  go_enter Tryz.func95,Tryz.ntmps95
  go_wp2
  go_ret
  exact⟨bQ (by simp[fZ,h1]),rfl⟩
theorem id_any(c:Nat)(w:World):Calls Tryz.prog 94 #[.int .u8 (c:Int)] w fun e w'=>e= .returned (.bool (wJ c))/\w=w':=by
 have hl:=GI c;have hd:=Kw c;obtain⟨b1,hb1⟩:∃b,lH c=b:=⟨_,rfl⟩
 obtain⟨b2,hb2⟩:∃b,fZ c=b:=⟨_,rfl⟩
 have hr:wJ c=(b1 || b2 || decide (c=95)):=by unfold wJ;rw[hb1,hb2]
 rw[hb1]at hl;rw[hb2]at hd;have HL:=kH hl;have HD:=kH hd;have e1:((c:Int)==95)=decide (c=95):=by rw[Bool.eq_iff_iff];simp;omega
 obtain⟨b3,hb3⟩:∃b,decide (c=95)=b:=⟨_,rfl⟩
 rw[hb3]at e1 hr;rw[hr];clear hl hd hb1 hb2 hb3 hr;go_enter Tryz.func94,Tryz.ntmps94
 go_wp2_with fail
 refine(HL.out w).mono ?_;rintro e w' ⟨rfl,rfl⟩;cases b1
 case true=>
  go_wp2_with fail
  go_ret
  exact⟨bQ (by simp),rfl⟩
 go_wp2_with fail
 refine(HD.out w).mono ?_;rintro e w' ⟨rfl,rfl⟩;cases b2
 case true=>
  go_wp2_with fail
  go_ret
  exact⟨bQ (by simp),rfl⟩
 go_wp2_with fail
 go_ret
 exact⟨bQ (by simp),rfl⟩
def Uq:List (ByteArray×Value):=OV.map fun b=>(bI b,.bool true)
theorem OX(w:World):Calls Tryz.prog 166 #[] w fun e w'=>e= .returned (.map (some w.heap.size))/\aY jB w' w.heap.size Uq/\Below w.heap.size w w':=by
 have hmm:=@run_makeMap Tryz.prog;have hmade:aY jB (w.alloc (.map #[] 0)) w.heap.size []:=aY.made w;have hbel:Below w.heap.size w (w.alloc (.map #[] 0)):=ae _ _;go_enter Tryz.func166,Tryz.ntmps166
 go_wp2_with (refine zQ (KK:=jB) _ rfl _ _ _ 55 rfl 9 4 Tryz.underlying55 Tryz.underlying9 w.heap.size _ _ _ rfl rfl rfl (by assumption) (by assumption) (aab _) ?_;intro w1 hm1 hb1)
 refine bodyPost_ret (v:=.map (some w.heap.size)) (by simp[results,Tryz.results166,go_sem]) rfl ?_;refine⟨rfl,Eq.mp (congrArg (aY jB w1 _) ?_) hm1,hb1⟩;kernel_rfl
theorem Vv(w:World):(zeroValue 4).run Tryz.prog w= .ok (.bool false) w:=by go_simp
theorem OY(s:ByteArray)(w:World):Calls Tryz.prog 92 #[.string s] w fun e w'=>e= .returned (.bool (J2 s.data.toList))/\Below w.heap.size w w':=by
 have hlk:∀(w':World) (r:Nat),aY jB w' r Uq->(Instr.lookup 55 (.map (some r)) (.string s) false).run Tryz.prog w'= .ok (.bool (J2 s.data.toList)) w':=fun w' r h=>by
  have:=uU (P:=Tryz.prog) (KK:=jB) (t:=55) (kt:=9) (et:=4) Tryz.underlying55 Tryz.underlying9 Vv h s;rw[show nP Uq s=_ from Rh (.bool true) OV s]at this;refine Eq.trans this ?_;unfold J2;cases si OV s.data.toList<;>rfl
 have HLK:=kH hlk;clear hlk;go_enter Tryz.func92,Tryz.ntmps92
 go_wp2_with fail
 refine(OX w).mono ?_;rintro e w1 ⟨rfl,hm,hb⟩;have hl1:=HLK.out w1 _ hm;go_wp2_with fail
 go_ret
 exact⟨rfl,hb⟩
theorem run_id(s:ByteArray)(w:World)(hs:s.size<=60000):
 Calls Tryz.prog 93 #[.string s,.int .i64 0,.func (Fn.func 94) #[] #[]] w fun e w'=>e= .returned (.int .i64 (iJ (fun i=>wJ (bz s.data.toList i)) s.data.toList s.size 0:Nat))/\w=w':=by
 go_enter Tryz.func93,Tryz.ntmps93
 go_wp2_with fail
 go_loopg [1] s.size (fun gk s1 wr=> ∃k:Nat,k+gk=s.size/\s1= .int .i64 (k:Int)/\iJ (fun i=>wJ (bz s.data.toList i)) s.data.toList s.size 0=iJ (fun i=>wJ (bz s.data.toList i)) s.data.toList gk k/\w=wr)
 case atStart=>exact⟨0,by omega,rfl,rfl,rfl⟩
 case round=>
  obtain⟨k,hk,rfl,hrun,rfl⟩:=hrel;have xQ:=kH hrun;clear hrun
  cases gk with
  | zero=>
   have hke:k=s.size:=by omega
   subst hke;go_wp2_with fail
   go_ret
   exact⟨by rw[xQ.out];rfl,rfl⟩
  | succ gk=>
   have hkl:k<s.size:=by omega
   have hkl':(k:Int)<(s.size:Int):=by omega
   have hwr:IntKind.i64.wrap ((k:Int)+1)=(k:Int)+1:=IntWalk.i64_in _ (by omega);obtain⟨b,hb⟩:∃b,wJ (bz s.data.toList k)=b:=⟨_,rfl⟩
   have hc:=id_any (s[k]'hkl).toNat;rw[qh s k hkl,hb]at hc;rw[<- qh s k hkl]at hc;have HC:=kH hc
   have HR2:Hid (iJ (fun i=>wJ (bz s.data.toList i)) s.data.toList s.size 0=if b=true then iJ (fun i=>wJ (bz s.data.toList i)) s.data.toList gk (k+1) else k):=kH (by
    rw[xQ.out,iJ,dm,hb,decide_eq_true hkl]
    simp)
   clear hc xQ hb;cases b
   ·go_wp2_with (go_at_call 94;refine(HC.out _).mono ?_;rintro e w' ⟨rfl,rfl⟩)
    go_ret
    exact⟨by rw[HR2.out];rfl,rfl⟩
   ·go_wp2_with (go_at_call 94;refine(HC.out _).mono ?_;rintro e w' ⟨rfl,rfl⟩)
    go_roundg gk
    case measure=>omega
    case rel=>exact⟨k+1,by omega,by simp,by rw[HR2.out];rfl,rfl⟩
theorem VQ(s:ByteArray)(w:World)(hs:s.size<=60000):
 Calls Tryz.prog 93 #[.string s,.int .i64 0,.func (Fn.func 95) #[] #[]] w fun e w'=>e= .returned (.int .i64 (iJ (fun i=>fZ (bz s.data.toList i)) s.data.toList s.size 0:Nat))/\w=w':=by
 go_enter Tryz.func93,Tryz.ntmps93
 go_wp2_with fail
 go_loopg [1] s.size (fun gk s1 wr=> ∃k:Nat,k+gk=s.size/\s1= .int .i64 (k:Int)/\iJ (fun i=>fZ (bz s.data.toList i)) s.data.toList s.size 0=iJ (fun i=>fZ (bz s.data.toList i)) s.data.toList gk k/\w=wr)
 case atStart=>exact⟨0,by omega,rfl,rfl,rfl⟩
 case round=>
  obtain⟨k,hk,rfl,hrun,rfl⟩:=hrel;have xQ:=kH hrun;clear hrun
  cases gk with
  | zero=>
   have hke:k=s.size:=by omega
   subst hke;go_wp2_with fail
   go_ret
   exact⟨by rw[xQ.out];rfl,rfl⟩
  | succ gk=>
   have hkl:k<s.size:=by omega
   have hkl':(k:Int)<(s.size:Int):=by omega
   have hwr:IntKind.i64.wrap ((k:Int)+1)=(k:Int)+1:=IntWalk.i64_in _ (by omega);obtain⟨b,hb⟩:∃b,fZ (bz s.data.toList k)=b:=⟨_,rfl⟩
   have hc:=Kw (s[k]'hkl).toNat;rw[qh s k hkl,hb]at hc;rw[<- qh s k hkl]at hc;have HC:=kH hc
   have HR2:Hid (iJ (fun i=>fZ (bz s.data.toList i)) s.data.toList s.size 0=if b=true then iJ (fun i=>fZ (bz s.data.toList i)) s.data.toList gk (k+1) else k):=kH (by
    rw[xQ.out,iJ,dm,hb,decide_eq_true hkl]
    simp)
   clear hc xQ hb;cases b
   ·go_wp2_with (go_at_call 95;refine(HC.out _).mono ?_;rintro e w' ⟨rfl,rfl⟩)
    go_ret
    exact⟨by rw[HR2.out];rfl,rfl⟩
   ·go_wp2_with (go_at_call 95;refine(HC.out _).mono ?_;rintro e w' ⟨rfl,rfl⟩)
    go_roundg gk
    case measure=>omega
    case rel=>exact⟨k+1,by omega,by simp,by rw[HR2.out];rfl,rfl⟩
theorem Af(s:ByteArray):s.toList.isEmpty=decide (s.size=0):=by
 rw[ByteArray.toList_eq,Bool.eq_iff_iff];obtain⟨⟨l⟩⟩:=s;simp[ByteArray.size]
theorem Wi(s:ByteArray)(w:World):Calls Tryz.prog 53 #[.string s] w fun e w'=>e= .returned (.bool (zB s.data.toList))/\Below w.heap.size w w':=by
 have hem:=Af s;by_cases h0:s.size=0
 ·have he:s.toList.isEmpty=true:=by rw[hem];simp[h0]
  have hr:zB s.data.toList=false:=by unfold zB;rw[dm,h0];rfl
  rw[hr];clear hem h0 hr;go_enter Tryz.func53,Tryz.ntmps53
  go_wp2_with fail
  go_ret
  exact⟨rfl,Below.refl _ _⟩
 have he:s.toList.isEmpty=false:=by rw[hem];simp[h0]
 by_cases h16:16<s.size
 ·have h16':(16:Int)<(s.size:Int):=by omega
  have hr:zB s.data.toList=false:=by unfold zB;rw[dm,decide_eq_false (p:=s.size<=16) (by omega)];simp
  rw[hr];clear hem h0 hr h16;go_enter Tryz.func53,Tryz.ntmps53
  go_wp2_with fail
  go_ret
  exact⟨rfl,Below.refl _ _⟩
 have h16':¬(16:Int)<(s.size:Int):=by omega
 have hp:0<s.size:=by omega
 have hp':(0:Int)<(s.size:Int):=by omega
 have hs6:s.size<=60000:=by omega
 obtain⟨b1,hb1⟩:∃b,lH (bz s.data.toList 0)=b:=⟨_,rfl⟩
 obtain⟨b2,hb2⟩:∃b,J2 s.data.toList=b:=⟨_,rfl⟩
 obtain⟨n,hn⟩:∃n,iJ (fun i=>wJ (bz s.data.toList i)) s.data.toList s.size 0=n:=⟨_,rfl⟩
 have hr:zB s.data.toList=(b1&& !b2&&decide (n=s.size)):=by
  unfold zB il;rw[dm,hb1,hb2,hn,decide_eq_true (p:=1<=s.size) (by omega),decide_eq_true (p:=s.size<=16) (by omega)];cases b1<;>simp
 rw[hr];have hl:=GI (s[0]'hp).toNat;rw[qh s 0 hp,hb1,<- qh s 0 hp]at hl;have hk:=OY s;rw[hb2]at hk;have hrn:=fun w=>run_id s w hs6
 rw[hn]at hrn;have HL:=kH hl;have HK:=kH hk;have HRN:=kH hrn;clear hr hb1 hb2 hn hl hk hrn h16 h0 hem;go_enter Tryz.func53,Tryz.ntmps53
 go_wp2_with fail
 refine(HL.out w).mono ?_;rintro e w' ⟨rfl,rfl⟩;cases b1
 ·go_wp2_with fail
  go_ret
  exact⟨rfl,Below.refl _ _⟩
 go_wp2_with fail
 refine(HK.out w).mono ?_;rintro e w1 ⟨rfl,hb⟩;cases b2
 case true=>
  go_wp2_with fail
  go_ret
  exact⟨rfl,hb⟩
 go_wp2_with fail
 refine(HRN.out w1).mono ?_;rintro e w' ⟨rfl,rfl⟩;go_wp2_with fail
 go_ret
 refine⟨bQ ?_,hb⟩;rw[Bool.eq_iff_iff];simp;omega
theorem Yl:∀(s:bE) (n k:Nat) (t:bE),t=s.drop k->k<=s.length->(xK t n).isSome=decide (iJ (fun i=>fZ (bz s i)) s (s.length - k) k=s.length):=by
 intro s n k t
 induction t generalizing n k with
 | nil=>
  intro h hk
  have:k=s.length:=by
   have h2:=congrArg List.length h;simp at h2;omega
  subst this;simp[xK,iJ]
 | cons c t ih=>
  intro h hk
  have hkl:k<s.length:=by
   have h2:=congrArg List.length h;simp at h2;omega
  have hc:s[k]? =some c/\t=s.drop (k+1):=by
   have h3:=List.drop_eq_getElem_cons hkl;rw[<- h]at h3;injection h3 with h4 h5
   exact⟨by rw[h4];exact aaf hkl,h5⟩
  have hbz:bz s k=c.toNat:=by unfold bz;rw[List.getD_eq_getElem?_getD,hc.1];rfl
  obtain⟨m,hm⟩:∃m,s.length - k=m+1:=⟨s.length - k - 1,by omega⟩
  rw[hm];unfold xK iJ;rw[hbz,decide_eq_true hkl,Bool.true_and];by_cases hd:fZ c.toNat=true
  ·rw[if_pos hd,if_pos hd,ih _ (k+1) hc.2 hkl]
   rw[show s.length - (k+1)=m by omega]
  ·rw[if_neg hd,if_neg hd]
   simp;omega
theorem Ra(s:ByteArray)(w:World):Calls Tryz.prog 172 #[.string s] w fun e w'=> ∃n,e= .returned (.tuple #[.int .i64 n,.bool (jw s.data.toList).isSome])/\Below w.heap.size w w':=by
 have hem:=Af s;by_cases h0:s.size=0
 ·have he:s.toList.isEmpty=true:=by rw[hem];simp[h0]
  have hr:(jw s.data.toList).isSome=false:=by unfold jw;rw[dm,h0];rfl
  rw[hr];clear hem h0 hr;go_enter Tryz.func172,Tryz.ntmps172
  go_wp2_with fail
  refine bodyPost_ret (v:=.tuple #[.int .i64 0,.bool false]) (by simp[results,Tryz.results172,go_sem]) rfl ?_;exact⟨0,rfl,Below.refl _ _⟩
 have he:s.toList.isEmpty=false:=by rw[hem];simp[h0]
 by_cases h9:9<s.size
 ·have h9':(9:Int)<(s.size:Int):=by omega
  have hr:(jw s.data.toList).isSome=false:=by unfold jw;rw[dm,if_pos (.inr h9)];rfl
  rw[hr];clear hem h0 hr h9;go_enter Tryz.func172,Tryz.ntmps172
  go_wp2_with fail
  refine bodyPost_ret (v:=.tuple #[.int .i64 0,.bool false]) (by simp[results,Tryz.results172,go_sem]) rfl ?_;exact⟨0,rfl,Below.refl _ _⟩
 have h9':¬(9:Int)<(s.size:Int):=by omega
 have hs6:s.size<=60000:=by omega
 obtain⟨n,hn⟩:∃n,iJ (fun i=>fZ (bz s.data.toList i)) s.data.toList s.size 0=n:=⟨_,rfl⟩
 have hr:(jw s.data.toList).isSome=decide (n=s.size):=by
  unfold jw;rw[dm,if_neg (by omega),Yl s.data.toList 0 0 s.data.toList rfl (Nat.zero_le _),dm];rw[show s.size - 0=s.size from rfl,hn]
 rw[hr];have hrn:=fun w=>VQ s w hs6
 rw[hn]at hrn
 have hle:n<=s.size:=by
  rw[<- hn]
  have:∀(f a:Nat),a<=s.data.toList.length->iJ (fun i=>fZ (bz s.data.toList i)) s.data.toList f a<=s.data.toList.length:=by
   intro f
   induction f with
   | zero=>intro a h;exact h
   | succ f ih=>
    intro a h;unfold iJ;split
    ·rename_i h2
     simp at h2;exact ih _ (by simp;omega)
    ·exact h
  have h2:=this s.size 0 (Nat.zero_le _);rw[dm]at h2;exact h2
 have HRN:=kH hrn;clear hr hn hrn h9 h0 hem;by_cases hlt:n<s.size
 ·have hlt':(n:Int)<(s.size:Int):=by omega
  have hd:decide (n=s.size)=false:=decide_eq_false (by omega);rw[hd];clear hlt hd hle;go_enter Tryz.func172,Tryz.ntmps172
  go_wp2_with fail
  refine(HRN.out w).mono ?_;rintro e w' ⟨rfl,rfl⟩;go_wp2_with fail
  refine bodyPost_ret (v:=.tuple #[.int .i64 0,.bool false]) (by simp[results,Tryz.results172,go_sem]) rfl ?_;exact⟨0,rfl,Below.refl _ _⟩
 ·have hlt':¬(n:Int)<(s.size:Int):=by omega
  have hd:decide (n=s.size)=true:=decide_eq_true (by omega);rw[hd];have hcv:=run_bytes_of_string (P:=Tryz.prog) w 9 254 5 s Tryz.underlying9 Tryz.underlying254 Tryz.underlying5;obtain⟨W,hW⟩:∃W:World,(w.drew.alloc (.cells (bytesRow s (grownCap w s.size 0 5)) 5 ((bytesRow s (grownCap w s.size 0 5)).size,(bytesRow s (grownCap w s.size 0 5)).size+1)))=W:=⟨_,rfl⟩
  rw[hW]at hcv;have hbW:Below w.heap.size w W:=by rw[<- hW];(repeat (first|exact Below.refl _ _|assumption|refine Below.trans ?_ (Below.mono (by assumption) (by first|omega|(simp;done)|(simp;omega)))|refine Below.alloc ?_ (by first|omega|(simp;done)|(simp;omega)) _|refine Below.setCell ?_ (by first|omega|(simp;done)|(simp;omega)) _|refine Below.drew ?_|refine bq ?_ _))
  have hcell:∀(k:Nat) (h:k<s.size),W.cell? ⟨w.heap.size,k,none⟩=some (.int .u8 ((s[k]'h).toNat:Int)):=by
   intro k h;have hk2:k<s.data.size:=h
   have hh:W.heap[w.heap.size]? =some (.cells (bytesRow s (grownCap w s.size 0 5)) 5 ((bytesRow s (grownCap w s.size 0 5)).size,(bytesRow s (grownCap w s.size 0 5)).size+1)):=by
    rw[<- hW];exact heap_alloc_new w.drew _
   have hr:(bytesRow s (grownCap w s.size 0 5))[k]? =some (.int .u8 ((s[k]'h).toNat:Int)):=by
    unfold bytesRow;rw[Array.getElem?_append_left (by simpa using hk2)];simp only[Array.getElem?_map,Array.getElem?_eq_getElem hk2,Option.map_some];rfl
   simp[World.cell?,hh,hr]
  obtain⟨cap,hcap⟩:∃c,grownCap w s.size 0 5=c:=⟨_,rfl⟩
  rw[hcap]at hcv;have oD:=kH hbW;have HCELL:=kH hcell;have hwl:w.heap.size<W.heap.size:=by rw[<- hW];simp
  clear hlt hd hle hW hbW hcell hcap;go_enter Tryz.func172,Tryz.ntmps172
  go_wp2_with fail
  refine(HRN.out w).mono ?_;rintro e w' ⟨rfl,rfl⟩;go_wp2_with fail
  go_loopg [4,24] s.size (fun gk s4 s24 wr=> ∃(k:Nat) (n:Int),k+gk=s.size/\s4= .int .i64 n/\s24= .int .i64 (k:Int)/\W=wr)
  case atStart=>exact⟨0,0,by omega,rfl,rfl,rfl⟩
  case round=>
   obtain⟨k,m,hk,rfl,rfl,rfl⟩:=hrel
   cases gk with
   | zero=>
    have hke:k=s.size:=by omega
    subst hke;go_wp2_with fail
    refine bodyPost_ret (v:=.tuple #[.int .i64 m,.bool true]) (by simp[results,Tryz.results172,go_sem]) rfl ?_;exact⟨m,rfl,oD.out⟩
   | succ gk=>
    have hkl:k<s.size:=by omega
    have hkl':(k:Int)<(s.size:Int):=by omega
    have hwr:IntKind.i64.wrap ((k:Int)+1)=(k:Int)+1:=IntWalk.i64_in _ (by omega);have hck:=HCELL.out k hkl;go_wp2_with fail
    go_roundg gk
    case measure=>omega
    case rel=>exact⟨k+1,_,by omega,rfl,by simp,rfl⟩
def iO(i:Int):List Value:=[.int .i64 i]
theorem Uv(A:Option Addr)(n c:Nat)(l:List Int)(x:Int)(w:World)(h1:df 1 iO w w.heap.size A l)(hl:l.length=n)(hn:n<=1000000):
 Calls Tryz.prog 167 #[.slice A n c,.int .i64 x] w fun e w'=>(∃i:Int,e= .returned (.int .i64 i)/\decide (0<=i)=l.any fun y=>decide (x=y))/\w=w':=by
 have H1:=kH h1;have uK:=kH hl;clear h1 hl;go_enter Tryz.func167,Tryz.ntmps167
 go_wp2_with fail
 go_loopg [8] n (fun gk s wr=> ∃k:Nat,k+gk=n/\s= .int .i64 k/\w=wr/\((l.take k).any fun y=>decide (x=y))=false)
 case atStart=>exact⟨0,by omega,rfl,rfl,rfl⟩
 case round=>
  obtain⟨k,hk,rfl,rfl,ht⟩:=hrel;have HK:=kH hk;have HT:=kH ht;have hk':k<=n:=by omega
  clear hk ht;by_cases hlt:k<n
  ·have e1:l[k]? =some (l[k]'(by rw[uK.out];exact hlt)):=aaf _
   generalize l[k]'(by rw[uK.out];exact hlt)=y at e1
   obtain⟨b1,o1,hA1,hb1,hc1⟩:=H1.out k _ e1;subst hA1;have hx:w.cell? ⟨b1,o1+k,none⟩=some (.int .i64 y):=by simpa using hc1 0 _ rfl
   have hkn:(k:Int)<(n:Int):=by omega
   have hwr:IntKind.i64.wrap ((k:Int)+1)=(k:Int)+1:=IntWalk.i64_in _ (by omega);have E1:=kH e1;clear hc1 e1;by_cases hxy:x=y
   ·have hq:(x==y)=true:=by simp[hxy]
    have hres:(l.any fun y=>decide (x=y))=true:=by
     rw[List.any_eq_true];exact⟨y,aan E1.out,by simp[hxy]⟩
    have aV:=kH hres;clear hres hxy;go_wp2_with fail
    go_ret
    exact⟨⟨(k:Int),rfl,by rw[aV.out];simp⟩,rfl⟩
   ·have hq:(x==y)=false:=by simp[hxy]
    have hsn:((l.take (k+1)).any fun y=>decide (x=y))=false:=by
     rw[List.take_add_one,E1.out,List.any_append,HT.out];simp[hxy]
    have KR:=kH hsn;clear hsn hxy;go_wp2_with fail
    go_roundg (gk - 1)
    case measure=>have:=HK.out;omega
    case rel=>exact⟨k+1,by have:=HK.out;omega,by simp,rfl,KR.out⟩
  ·have hres:(l.any fun y=>decide (x=y))=false:=by
    have h:=HT.out;rw[List.take_of_length_le (by rw[uK.out];omega)]at h;exact h
   have aV:=kH hres;clear hres;go_wp2_with fail
   go_ret
   exact⟨⟨-1,rfl,by rw[aV.out];rfl⟩,rfl⟩
theorem Nw(A:Option Addr)(n c:Nat)(l:List Int)(x:Int)(w:World)(h1:df 1 iO w w.heap.size A l)(hl:l.length=n)(hn:n<=1000000):
 Calls Tryz.prog 96 #[.slice A n c,.int .i64 x] w fun e w'=>e= .returned (.bool (l.any fun y=>decide (x=y)))/\w=w':=by
 have HI:=kH (Uv A n c l x w h1 hl hn);clear h1 hl;go_enter Tryz.func96,Tryz.ntmps96
 go_wp2_with fail
 refine HI.out.mono ?_;rintro e w' ⟨⟨i,rfl,hi⟩,rfl⟩;go_wp2_with fail
 go_ret
 exact⟨bQ (by rw[<- hi]),rfl⟩
theorem Uu(A:Option Addr)(n c:Nat)(l:List ByteArray)(x:ByteArray)(w:World)(h1:df 1 fP w w.heap.size A l)(hl:l.length=n)(hn:n<=1000000):
 Calls Tryz.prog 87 #[.slice A n c,.string x] w fun e w'=>(∃i:Int,e= .returned (.int .i64 i)/\decide (0<=i)=nW l x)/\w=w':=by
 have H1:=kH h1;have uK:=kH hl;clear h1 hl;go_enter Tryz.func87,Tryz.ntmps87
 go_wp2_with fail
 go_loopg [8] n (fun gk s wr=> ∃k:Nat,k+gk=n/\s= .int .i64 k/\w=wr/\nW (l.take k) x=false)
 case atStart=>exact⟨0,by omega,rfl,rfl,rfl⟩
 case round=>
  obtain⟨k,hk,rfl,rfl,ht⟩:=hrel;have HK:=kH hk;have HT:=kH ht;have hk':k<=n:=by omega
  clear hk ht;by_cases hlt:k<n
  ·have e1:l[k]? =some (l[k]'(by rw[uK.out];exact hlt)):=aaf _
   generalize l[k]'(by rw[uK.out];exact hlt)=y at e1
   obtain⟨b1,o1,hA1,hb1,hc1⟩:=H1.out k _ e1;subst hA1;have hx:w.cell? ⟨b1,o1+k,none⟩=some (.string y):=by simpa using hc1 0 _ rfl
   have hkn:(k:Int)<(n:Int):=by omega
   have hwr:IntKind.i64.wrap ((k:Int)+1)=(k:Int)+1:=IntWalk.i64_in _ (by omega)
   have hsn:nW (l.take (k+1)) x=(y.toList==x.toList):=by
    have h0:=HT.out;unfold nW at h0⊢;rw[List.take_add_one,e1,List.any_append,h0];simp
   have E1:=kH e1;have KR:=kH hsn;obtain⟨q,hq⟩:∃q,(y.toList==x.toList)=q:=⟨_,rfl⟩
   have hq2:(x.toList==y.toList)=q:=by rw[<- hq,Bool.eq_iff_iff];simp only[beq_iff_eq];exact eq_comm
   have HQ:=kH hq;clear hc1 e1 hsn hq;cases q
   ·go_wp2_with fail
    go_roundg (gk - 1)
    case measure=>have:=HK.out;omega
    case rel=>exact⟨k+1,by have:=HK.out;omega,by simp,rfl,by rw[KR.out];exact HQ.out⟩
   ·have hres:nW l x=true:=by
     unfold nW;rw[List.any_eq_true];exact⟨y,aan E1.out,HQ.out⟩
    have aV:=kH hres;clear hres;go_wp2_with fail
    go_ret
    exact⟨⟨(k:Int),rfl,by rw[aV.out];simp⟩,rfl⟩
  ·have hres:nW l x=false:=by
    have h:=HT.out;rw[List.take_of_length_le (by rw[uK.out];omega)]at h;exact h
   have aV:=kH hres;clear hres;go_wp2_with fail
   go_ret
   exact⟨⟨-1,rfl,by rw[aV.out];rfl⟩,rfl⟩
theorem Ed(A:Option Addr)(n c:Nat)(l:List ByteArray)(x:ByteArray)(w:World)(h1:df 1 fP w w.heap.size A l)(hl:l.length=n)(hn:n<=1000000):
 Calls Tryz.prog 46 #[.slice A n c,.string x] w fun e w'=>e= .returned (.bool (nW l x))/\w=w':=by
 have HI:=kH (Uu A n c l x w h1 hl hn);clear h1 hl;go_enter Tryz.func46,Tryz.ntmps46
 go_wp2_with fail
 refine HI.out.mono ?_;rintro e w' ⟨⟨i,rfl,hi⟩,rfl⟩;go_wp2_with fail
 go_ret
 exact⟨bQ (by rw[<- hi]),rfl⟩
def QT(fn:Nat):Prop:=∀(args:Array Value) (w:World),(callFunc fn args).run Tryz.prog w= .ok (.enter fn args) w
def KC(w w':World):Prop:=∀(g:Nat) (cs:Array Value) (ty:TypeId) (fr:Nat×Nat),w.heap[g]? =some (.cells cs ty fr)->w'.heap[g]? =w.heap[g]?
theorem KC.trans{a b c:World}(h:KC a b)(k:KC b c):KC a c:=fun g cs ty fr hg=>by
 have e:=h g cs ty fr hg;exact(k g cs ty fr (e.trans hg)).trans e
theorem KC.of_below{w w':World}(hb:Below w.heap.size w w'):KC w w':=fun g _ _ _ hg=>hb.block g (aae.1 hg).1
theorem KC.blk{w w':World}{g:Nat}{ty:TypeId}{cs:Array Value}(h:KC w w')(hb:ak w g ty cs):ak w' g ty cs:=ak.keep hb (h g cs ty (0,0) hb)
theorem KC.cell{w w':World}(h:KC w w'){b o:Nat}{v:Value}(hc:w.cell? ⟨b,o,none⟩=some v):w'.cell? ⟨b,o,none⟩=some v:=by
 unfold World.cell? at hc⊢
 cases hg:w.heap[b]? with
 | none=>rw[hg]at hc;cases hc
 | some ob=>
  cases ob with
  | cells cs ty fr=>
   have:=h b cs ty fr hg;simp only at hc⊢;rw[this,hg];rw[hg]at hc;exact hc
  | _=>rw[hg]at hc;cases hc
theorem KC.lt{w w':World}(h:KC w w'){b o:Nat}{v:Value}(hc:w.cell? ⟨b,o,none⟩=some v):b<w'.heap.size:=by
 have:=h.cell hc;unfold World.cell? at this;rcases Nat.lt_or_ge b w'.heap.size with h1|h1
 ·exact h1
 ·simp[Array.getElem?_eq_none h1]at this
theorem df.kc{α:Type}{size:Nat}{cells:α->List Value}{w w':World}{B:Nat}{A:Option Addr}{l:List α}(h:df size cells w B A l)(hk:KC w w'):df size cells w' B A l:=by
 intro k c hkc;obtain⟨b,off,h1,h2,h3⟩:=h k c hkc;exact⟨b,off,h1,h2,fun j v hj=>hk.cell (h3 j v hj)⟩
def jU(w:World)(v:Value)(p:Int->Bool):Prop:=
 ∃fn cap,v= .func (Fn.func fn) #[] cap/\QT fn/\∀(k:Int) (w':World),KC w w'->w.heap.size<=w'.heap.size->Calls Tryz.prog fn (#[.int .i64 k]++cap) w' fun e w''=>e= .returned (.bool (p k))/\Below w'.heap.size w' w''
def qj(w:World)(v:Value)(p:ByteArray->Bool):Prop:=
 ∃fn cap,v= .func (Fn.func fn) #[] cap/\QT fn/\∀(s:ByteArray) (w':World),KC w w'->w.heap.size<=w'.heap.size->Calls Tryz.prog fn (#[.string s]++cap) w' fun e w''=>e= .returned (.bool (p s))/\Below w'.heap.size w' w''
theorem jU.kc{w w':World}{v:Value}{p:Int->Bool}(h:jU w v p)(hb:KC w w')(hs:w.heap.size<=w'.heap.size):jU w' v p:=by
 obtain⟨fn,cap,h1,h2,h3⟩:=h;exact⟨fn,cap,h1,h2,fun k w'' hb' hs'=>h3 k w'' (hb.trans hb') (aac hs hs')⟩
theorem qj.kc{w w':World}{v:Value}{p:ByteArray->Bool}(h:qj w v p)(hb:KC w w')(hs:w.heap.size<=w'.heap.size):qj w' v p:=by
 obtain⟨fn,cap,h1,h2,h3⟩:=h;exact⟨fn,cap,h1,h2,fun s w'' hb' hs'=>h3 s w'' (hb.trans hb') (aac hs hs')⟩
theorem jU.below{w w':World}{v:Value}{p:Int->Bool}(h:jU w v p)(hb:Below w.heap.size w w'):jU w' v p:=h.kc (KC.of_below hb) hb.size
open Go.Sort
abbrev jN(l:List Int):List Value:=l.map (Value.int .i64)
theorem Zn(v:Value)(base n:Nat)(zs:List Int)(w:World)(h:aP w base 3 1 v n (jN zs))(hn:n<=1000000):
 Calls Tryz.prog 101 #[v] w fun e w'=>e= .returned (.tuple #[])/\aP w' base 3 1 v n (jN (zs.mergeSort fun x y=>decide (x<=y)))/\w.grownBy w' v.ownBlock:=by
 have hl:zs.length=n:=by have:=h.1;simpa using this
 by_cases h0:n=0
 ·subst h0
  have hz:zs=[]:=List.eq_nil_of_length_eq_zero hl;subst hz;obtain⟨A,c,hA,_,_⟩:=h.shape;subst hA;refine(Tryz.slices_Sort_int_none A c w).mono ?_;rintro e w' ⟨rfl,rfl⟩;exact⟨rfl,by simpa using h,⟨rfl,rfl,rfl,aab _,fun _ _ _=>rfl⟩⟩
 ·rcases h.2 with⟨_,h1⟩| ⟨g,off,cap,cur,rfl,hb,hg,hnc,hm,hs,ht⟩
  ·omega
  ·have hlt:g<w.heap.size:=(aae.1 hg).1
   have hH:Holds (Value.int .i64) w g off zs.toArray:=by
    intro j hj;have hj':j<zs.length:=by simpa using hj
    refine⟨?_,by simp[World.frozen?,hg]⟩;obtain⟨g',off',cap',hv',_,_,_,_,hc⟩:=h.form (by omega);cases hv'
    refine hc j _ ?_;simp[hj']
   rw[<- hl];refine(Tryz.slices_Sort_int g off cap zs w hH hlt (by omega)).mono ?_;rintro e w' ⟨rfl,q,os,rfl⟩
   have hheap:(grow (putRow (Value.int .i64) (Sort.ahead w q) g off (zs.mergeSort fun x y=>decide (x<=y)).toArray) os).heap[g]? =some (.cells (putCells (Value.int .i64) off (zs.mergeSort fun x y=>decide (x<=y)).toArray cur) 3 (0,0)):=by
    rw[heap_grow_old _ _ (by simpa using hlt)];simp[putRow,mapBlock,Sort.ahead,Array.getElem?_modify,hg,onCells]
   refine⟨rfl,⟨by simp,.inr ⟨g,off,cap,_,rfl,hb,hheap,by omega,hm,by simp[putCells];omega,?_⟩⟩,⟨rfl,rfl,rfl,by simp,fun k hk hne=>?_⟩⟩
   ·apply List.ext_getElem?
    intro j;by_cases hj:j<zs.length
    ·rw[Nat.mul_one,List.getElem?_take_of_lt hj,List.getElem?_drop,Array.getElem?_toList]
     have h1:off+j<cur.size:=by omega
     simp[putCells,hj,h1]
    ·rw[Nat.mul_one,List.getElem?_take_eq_none (by omega),List.getElem?_eq_none (by simp;omega)]
   ·rw[heap_grow_old _ _ (by simpa using hk)]
    have hgk:g≠k:=fun e=>hne (by simp[Value.ownBlock,e])
    simp[putRow,mapBlock,Sort.ahead,Array.getElem?_modify,hgk]
end Go.Proofs.YtoepemlnlpamlaaGreat
namespace Go.Proofs.YtoepemlnlpamlaaGreat
open Go.RowKit
section
variable {K:Type} [DecidableEq K] {V:Type}
theorem OH(f:V->Value)(k:K):∀(l:List (K×V)) (i:Nat),(mJ k (l.map fun x=>(x.1,f x.2)) i).map (·.2)=(bG l k).map f
 | [],_=>rfl
 | x::l,i=>by
  simp only[List.map_cons,mJ,bG];by_cases h:k=x.1
  ·rw[if_pos h,if_pos h];rfl
  ·rw[if_neg h,if_neg h];exact OH f k l (i+1)
theorem EO(f:V->Value)(l:List (K×V))(k:K):nP (l.map fun x=>(x.1,f x.2)) k=(bG l k).map f:=OH f k l 0
theorem EC(x:K×Value)(m:List (K×Value))(k:K)(v:Value)(h:k≠x.1):qM (x::m) k v=x::qM m k v:=by
 unfold qM
 have h1:mJ k (x::m) 0=(mJ k m 0).map fun y=>(1+y.1,y.2):=by
  show(if k=x.1 then _ else mJ k m (0+1))=_;rw[if_neg h,Nat.zero_add];exact C9 k m 1 0
 rw[h1]
 cases hp:mJ k m 0 with
 | none=>rfl
 | some y=>simp[Nat.add_comm 1]
theorem Oe(x:K×Value)(m:List (K×Value))(k:K)(v:Value)(h:k=x.1):qM (x::m) k v=(k,v)::m:=by
 unfold qM
 have h1:mJ k (x::m) 0=some (0,x.2):=by
  show(if k=x.1 then _ else _)=_;rw[if_pos h]
 rw[h1];rfl
theorem H7(f:V->Value)(k:K)(v:V):∀(l:List (K×V)),qM (l.map fun x=>(x.1,f x.2)) k (f v)=(dK l k v).map fun x=>(x.1,f x.2)
 | []=>rfl
 | x::l=>by
  simp only[List.map_cons,dK];by_cases h:k=x.1
  ·rw[if_pos h,Oe _ _ _ _ h];rfl
  ·rw[if_neg h,EC _ _ _ _ h,H7 f k v l];rfl
end
theorem aP.set1{w:World}{base:Nat}{e:TypeId}{g off c n:Nat}{xs:List Value}(h:aP w base e 1 (.slice (some ⟨g,off,none⟩) n c) n xs)(i:Nat)(hi:i<n)(u:Value):
 aP (w.setCell ⟨g,off+i,none⟩ u) base e 1 (.slice (some ⟨g,off,none⟩) n c) n (xs.set i u):=by
 refine⟨by simpa using h.1,?_⟩;rcases h.2 with⟨h1,_⟩| ⟨g1,EK,I7,Ch,hv,hb,hg,hn,hm,hs,ht⟩
 ·cases h1
 ·simp only[Value.slice.injEq,aag,Addr.mk.injEq]at hv
  obtain⟨⟨rfl,rfl,_⟩,_,rfl⟩:=hv;refine .inr ⟨g,off,c,Ch.setIfInBounds (off+i) u,rfl,hb,by simp[World.setCell,Array.getElem?_modify,hg],hn,hm,by simpa using hs,?_⟩;rw[<- ht,Array.toList_setIfInBounds];apply List.ext_getElem?
  intro j;simp only[List.getElem?_take,List.getElem?_drop,List.getElem?_set,List.length_take,List.length_drop];by_cases hj:j<n*1
  ·rw[if_pos hj,if_pos hj]
   by_cases hij:i=j
   ·subst hij
    have:off+i<Ch.size:=by omega
    simp[this];omega
   ·simp[hij]
  ·rw[if_neg hj,if_neg hj]
   have:i≠j:=by omega
   simp[this]
theorem aY.qW{K:Type}[DecidableEq K]{KK:oM K}{w:World}{r g:Nat}{m:List (K×Value)}{t:TypeId}{cs:Array Value}(h:aY KK w r m)(hb:ak w g t cs):r≠g:=by
 rintro rfl;obtain⟨es,clock,h1,_⟩:=h;have:w.heap[r]? =some (.cells cs t (0,0)):=hb;rw[h1]at this;cases this
theorem aP.obj{w:World}{base:Nat}{e:TypeId}{size:Nat}{v:Value}{n:Nat}{xs:List Value}(h:aP w base e size v n xs):∀g,v.ownBlock=some g->∃cur,w.heap[g]? =some (.cells cur e (0,0)):=by
 intro g hv;rcases h.2 with⟨rfl,_⟩| ⟨g1,EK,I7,Ch,rfl,_,hg1,_⟩
 ·cases hv
 ·simp[Value.ownBlock]at hv
  subst hv;exact⟨Ch,hg1⟩
theorem aY.jy{K:Type}[DecidableEq K]{KK:oM K}{w:World}{r:Nat}{m:List (K×Value)}{base:Nat}{e:TypeId}{size:Nat}{v:Value}{n:Nat}{xs:List Value}(h:aY KK w r m)(ho:aP w base e size v n xs):v.ownBlock≠some r:=by
 intro hv;obtain⟨cur,hg⟩:=ho.obj r hv;obtain⟨es,clock,h1,_⟩:=h;rw[h1]at hg;cases hg
def uN(l:List (Int×Int)):List (Int×Value):=l.map fun x=>(x.1,.int .i64 x.2)
def jV(l:nA):List (ByteArray×Value):=l.map fun x=>(x.1,.int .i64 x.2)
def kS(d:Dc):List Value:=[.int .i64 d.kind,.string d.name,.int .i64 d.node,.int .i64 d.owner]
def iR(p:Int×Dg):List Value:=[.int .i64 p.1,.int .i64 p.2.code,.int .i64 p.2.at_,.int .i64 p.2.end_,.string p.2.text,.slice none 0 0]
structure RC where
 base:Nat
 rp:Nat
 g:Nat
 f:Nat
 k:Nat
 vi:Nat
 uA:Option Addr
 uc:Nat
structure RV where
 dA:Option Addr
 dc:Nat
 pA:Option Addr
 pc:Nat
 vals:List (Int×Value)
def fM(w:World)(base:Nat)(ub:Option Nat):List (Int×List Int)->List (Int×Value)->Prop
 | [],vals=>vals=[]
 | x::l,vals=> ∃v vs,vals=(x.1,v)::vs/\aP w base 3 1 v x.2.length (jN x.2)/\(∀g,v.ownBlock=some g->ub≠some g/\∀y∈vs,y.2.ownBlock≠some g)/\fM w base ub l vs
theorem fM.of_block{w w':World}{base:Nat}{ub:Option Nat}:∀{l:List (Int×List Int)}{vals:List (Int×Value)},fM w base ub l vals ->
 (∀g cur,w.heap[g]? =some (.cells cur 3 (0,0))->ub≠some g->w'.heap[g]? =w.heap[g]?)->fM w' base ub l vals
 | [],_,h,_=>h
 | _::_,_,⟨v,vs,h1,h2,h3,h4⟩,hk=>⟨v,vs,h1,h2.of_block fun g hg=>by obtain⟨cur,ho⟩:=h2.obj g hg;exact hk g cur ho (h3 g hg).1,h3,fM.of_block h4 hk⟩
structure bf (E:RC) (G:bD) (r:RS) (V:RV) (w:World):Prop where
 blk:ak w E.rp 75 #[.map (some E.g),.map (some E.f),.map (some E.k),.slice V.dA r.ds.length V.dc,.slice E.uA r.uses.length E.uc,.map (some E.vi),.slice V.pA r.aR.length V.pc,.int .i64 (r.next:Int),.int .i64 r.owner]
 gl:aY jB w E.g (jV G.globals)
 fl:aY jB w E.f (jV G.fields)
 kn:aY iN w E.k (uN G.kinds)
 vi:aY iN w E.vi V.vals
 bH:fM w E.base (Value.slice E.uA r.uses.length E.uc).ownBlock r.bH V.vals
 ds:aP w E.base 49 4 (.slice V.dA r.ds.length V.dc) r.ds.length (r.ds.flatMap kS)
 us:aP w E.base 3 1 (.slice E.uA r.uses.length E.uc) r.uses.length (jN r.uses)
 ps:aP w E.base 80 6 (.slice V.pA r.aR.length V.pc) r.aR.length (r.aR.flatMap iR)
 low:E.base<=E.rp/\E.base<=E.vi
 apart:E.vi≠E.g/\E.vi≠E.f/\E.vi≠E.k
def Tp(E:RC)(M:Nat->Prop)(w:World)(g:Nat):Prop:=
 E.base<=g/\((∃cs t fr,w.heap[g]? =some (.cells cs t fr)/\(t=75\/t=80\/t=49\/E.uA.map (·.block)=some g))\/((∃es ck,w.heap[g]? =some (.map es ck))/\M g))
def KX(E:RC)(M:Nat->Prop)(w w':World):Prop:=aA (Tp E M w) w w'
section
variable {E:RC}{M M':Nat->Prop}{w w1 w':World}
theorem KX.refl(E:RC)(M:Nat->Prop)(w:World):KX E M w w:=aA.refl _ _
theorem KX.trans(h:KX E M w w1)(k:KX E M' w1 w')(hM:∀g,M' g->M g\/w.heap.size<=g):KX E M w w':=by
 refine h.step k fun g hg=>?_
 by_cases hlt:g<w.heap.size
 ·left
  by_cases hT:Tp E M w g
  ·exact hT
  ·have he:=h.block g hlt hT
   obtain⟨h1,h2⟩:=hg;rw[he]at h2;refine⟨h1,h2.imp id fun⟨h3,h4⟩=>⟨h3,?_⟩⟩;rcases hM g h4 with h5|h5
   ·exact h5
   ·omega
 ·right
  omega
theorem KX.mono(h:KX E M w w')(hM:∀g,M g->M' g):KX E M' w w':=aA.mono h fun _ ⟨h1,h2⟩=>⟨h1,h2.imp id fun⟨h3,h4⟩=>⟨h3,hM _ h4⟩⟩
theorem KX.of_below(hb:Below w.heap.size w w'):KX E M w w':=(aA.refl _ _).below hb
theorem KX.low(h:KX E M w w')(hB:E.base<=w.heap.size):Below E.base w w':=aA.toBelow h hB fun _ hk=>hk.1
theorem KX.blk(h:KX E M w w'){g:Nat}{t:TypeId}{cs:Array Value}(hb:ak w g t cs)(h1:t≠75)(h2:t≠80)(h3:t≠49)(h4:E.uA.map (·.block)≠some g):ak w' g t cs:=by
 refine ak.since hb h fun⟨_,h5⟩=>?_
 have hb':w.heap[g]? =some (.cells cs t (0,0)):=hb;rcases h5 with⟨cs',t',fr',h6,h7⟩| ⟨⟨es,ck,h6⟩,_⟩
 ·rw[hb']at h6
  simp at h6;obtain⟨_,rfl,_⟩:=h6;rcases h7 with h7|h7|h7|h7
  ·exact h1 h7
  ·exact h2 h7
  ·exact h3 h7
  ·exact h4 h7
 ·rw[hb']at h6
  cases h6
theorem KX.Qr{K:Type}[DecidableEq K]{KK:oM K}{r:Nat}{m:List (K×Value)}(h:KX E M w w')(ha:aY KK w r m)(hM:¬M r):aY KK w' r m:=by
 refine aY.since ha h fun⟨_,h5⟩=>?_
 obtain⟨es',ck',h8,_⟩:=ha;rcases h5 with⟨cs',t',fr',h6,h7⟩| ⟨_,h6⟩
 ·rw[h8]at h6
  cases h6
 ·exact hM h6
end
def aW(w:World)(base:Nat):Option Addr->aT->List Nat->Prop
 | p,[],ms=>p=none/\ms=[]
 | p,x::s,ms=> ∃b m p' ms',p=some ⟨b,0,none⟩/\ms=m::ms'/\base<=b/\base<=m/\ak w b 95 #[.pointer p',.map (some m)]/\aY jB w m (jV x)/\aW w base p' s ms'
theorem aW.kx{E:RC}{M:Nat->Prop}{w w':World}(h:KX E M w w')(hu:∀g cs,E.uA.map (·.block)=some g->w.heap[g]?≠some (.cells cs 95 (0,0))):∀{s:aT}{p:Option Addr}{ms:List Nat},aW w E.base p s ms->(∀m∈ms,¬M m)->aW w' E.base p s ms
 | [],_,_,hs,_=>hs
 | _::_,_,_,⟨b,m,p',ms',h1,h2,h3,h4,h5,h6,h7⟩,hM=>by
  subst h2;exact⟨b,m,p',ms',h1,rfl,h3,h4,h.blk h5 (by decide) (by decide) (by decide) (fun hg=>hu b _ hg h5),h.Qr h6 (hM m (by simp)),aW.kx h hu h7 fun x hx=>hM x (by simp[hx])⟩
theorem Ht(w:World):(zeroValue 3).run Tryz.prog w= .ok (.int .i64 0) w:=by go_simp
theorem fq(w:World)(r:Nat)(l:nA)(h:aY jB w r (jV l))(x:ByteArray):
 (Instr.lookup 70 (.map (some r)) (.string x) true).run Tryz.prog w= .ok (.tuple #[.int .i64 ((bG l x).getD 0),.bool (bG l x).isSome]) w:=by
 have:=Bv (P:=Tryz.prog) (KK:=jB) (t:=70) (kt:=9) (et:=3) Tryz.underlying70 Tryz.underlying9 Ht h x;unfold jV at this;rw[EO]at this
 cases hl:bG l x with
 | none=>rw[hl]at this;exact this
 | some k=>rw[hl]at this;exact this
theorem EU(p:Option Addr)(w:World):
 Calls Tryz.prog 48 #[.pointer p] w fun e w'=> ∃b m,e= .returned (.pointer (some ⟨b,0,none⟩))/\w.heap.size<=b/\w.heap.size<=m/\ak w' b 95 #[.pointer p,.map (some m)]/\aY jB w' m []/\Below w.heap.size w w':=by
 have hmm:=@run_makeMap Tryz.prog;go_enter Tryz.func48,Tryz.ntmps48
 go_wp2_with fail
 go_ret
 refine⟨w.heap.size+1,w.heap.size,rfl,by omega,aab _,?_,(aY.made w).alloc _,(ae _ _).trans ((ae _ _).mono (by simp))⟩;have:=ak.new (w.alloc (.map #[] 0)) 95 #[.pointer p,.map (some w.heap.size)];simpa using this
theorem I6(base:Nat)(x:ByteArray)(w:World):∀(s:aT) (p:Option Addr) (ms:List Nat),aW w base p s ms ->
 Calls Tryz.prog 45 #[.pointer p,.string x] w fun e w'=>e= .returned (.tuple #[.int .i64 ((eO s x).getD 0),.bool (eO s x).isSome])/\w'=w:=by
 intro s
 induction s with
 | nil=>
  rintro p ms ⟨rfl,-⟩;go_enter Tryz.func45,Tryz.ntmps45
  go_wp2_with fail
  go_ret2
  exact⟨rfl,rfl⟩
 | cons l s ih=>
  rintro p ms ⟨b,m,p',ms',rfl,rfl,h1,h2,hb,hm,hs⟩;have hih:=ih p' ms' hs;have hlk:=fq w m l hm x;have c0:=hb.cell 0;have c1:=hb.cell 1;have hlt:=hb.lt;clear ih hb hm hs
  cases hl:bG l x with
  | none=>
   rw[hl]at hlk;simp only[Option.getD_none,Option.isSome_none]at hlk
   have hf:eO (l::s) x=eO s x:=by
    show(match bY l x with|some k=>some k|none=>eO s x)=_;rw[show bY l x=none from hl]
   rw[hf];generalize eO s x=fx at hih⊢
   clear hf hl;have fO:=kH hih;clear hih;go_enter Tryz.func45,Tryz.ntmps45
   go_wp2_with fail
   refine fO.out.mono ?_;rintro e w' ⟨rfl,rfl⟩;go_wp2_with fail
   go_ret2
   exact⟨rfl,rfl⟩
  | some k=>
   rw[hl]at hlk;simp only[Option.getD_some,Option.isSome_some]at hlk
   have hf:eO (l::s) x=some k:=by
    show(match bY l x with|some k=>some k|none=>eO s x)=_;rw[show bY l x=some k from hl]
   rw[hf];clear hf hl hih;go_enter Tryz.func45,Tryz.ntmps45
   go_wp2_with fail
   go_ret2
   exact⟨rfl,rfl⟩
end Go.Proofs.YtoepemlnlpamlaaGreat
