/- The law NamesFreeAt holds: for every text and every number the law returns true, and its arguments read as before. No condition. Part 16: LexN LexO Shp1 Sort NamW Nam1. -/
import Derived.Laws.IdiomStrings
import Derived.Deep.QuietTactic
import Derived.Test.YtoepemlnlpamlaaGreatFreeAt01
import Derived.Test.YtoepemlnlpamlaaGreatFreeAt02
import Derived.Test.YtoepemlnlpamlaaGreatFreeAt15
namespace Go.Proofs.YtoepemlnlpamlaaGreat
set_option maxRecDepth 100000
set_option maxHeartbeats 4000000
open Go.RowKit
theorem letter2_any (c:Nat) (w:World):Calls Tryz.prog 91 #[.int .u8 (c:Int)] w fun e w'=>e = .returned (.bool (letterB c))∧w=w':=by
 by_cases h1:97≤c
 ·have h1':(97:Int)≤(c:Int):=by omega
  by_cases h2:c≤122
  ·have h2':(c:Int)≤122:=by omega
   go_enter Tryz.func91,Tryz.ntmps91
   go_wp2
   go_ret
   exact⟨ret_bool' (by simp[letterB,h1,h2]),rfl⟩
  ·have h2':¬ (c:Int)≤122:=by omega
   go_enter Tryz.func91,Tryz.ntmps91
   go_wp2
   go_ret
   exact⟨ret_bool' (by simp[letterB,h1,h2]),rfl⟩
 ·have h1':¬ (97:Int)≤(c:Int):=by omega
  go_enter Tryz.func91,Tryz.ntmps91
  go_wp2
  go_ret
  exact⟨ret_bool' (by simp[letterB,h1]),rfl⟩
theorem digit2_any (c:Nat) (w:World):Calls Tryz.prog 95 #[.int .u8 (c:Int)] w fun e w'=>e = .returned (.bool (digitB c))∧w=w':=by
 by_cases h1:48≤c
 ·have h1':(48:Int)≤(c:Int):=by omega
  by_cases h2:c≤57
  ·have h2':(c:Int)≤57:=by omega
   go_enter Tryz.func95,Tryz.ntmps95
   go_wp2
   go_ret
   exact⟨ret_bool' (by simp[digitB,h1,h2]),rfl⟩
  ·have h2':¬ (c:Int)≤57:=by omega
   go_enter Tryz.func95,Tryz.ntmps95
   go_wp2
   go_ret
   exact⟨ret_bool' (by simp[digitB,h1,h2]),rfl⟩
 ·have h1':¬ (48:Int)≤(c:Int):=by omega
  go_enter Tryz.func95,Tryz.ntmps95
  go_wp2
  go_ret
  exact⟨ret_bool' (by simp[digitB,h1]),rfl⟩
theorem id_any (c:Nat) (w:World):Calls Tryz.prog 94 #[.int .u8 (c:Int)] w fun e w'=>e = .returned (.bool (idB c))∧w=w':=by
 have hl:=letter2_any c;have hd:=digit2_any c
 obtain⟨b1,hb1⟩:∃ b,letterB c=b:=⟨_,rfl⟩
 obtain⟨b2,hb2⟩:∃ b,digitB c=b:=⟨_,rfl⟩
 have hr:idB c=(b1 || b2 || decide (c=95)):=by unfold idB;rw[hb1,hb2]
 rw[hb1]at hl;rw[hb2]at hd;have HL:=kH hl;have HD:=kH hd
 have e1:((c:Int) == 95)=decide (c=95):=by rw[Bool.eq_iff_iff];simp;omega
 obtain⟨b3,hb3⟩:∃ b,decide (c=95)=b:=⟨_,rfl⟩
 rw[hb3]at e1 hr;rw[hr];clear hl hd hb1 hb2 hb3 hr
 go_enter Tryz.func94,Tryz.ntmps94
 go_wp2_with fail
 refine(HL.out w).mono ?_;rintro e w' ⟨rfl,rfl⟩
 cases b1
 case true =>
  go_wp2_with fail
  go_ret
  exact⟨ret_bool' (by simp),rfl⟩
 go_wp2_with fail
 refine(HD.out w).mono ?_;rintro e w' ⟨rfl,rfl⟩
 cases b2
 case true =>
  go_wp2_with fail
  go_ret
  exact⟨ret_bool' (by simp),rfl⟩
 go_wp2_with fail
 go_ret
 exact⟨ret_bool' (by simp),rfl⟩
def kwMap:List (ByteArray × Value):=kws.map fun b=>(mkS b,.bool true)
theorem keywords_any (w:World):Calls Tryz.prog 166 #[] w fun e w'=>e = .returned (.map (some w.heap.size))∧AMap strK w' w.heap.size kwMap∧Below w.heap.size w w':=by
 have hmm:=@run_makeMap Tryz.prog;have hmade:AMap strK (w.alloc (.map #[] 0)) w.heap.size []:=AMap.made w;have hbel:Below w.heap.size w (w.alloc (.map #[] 0)):=below_alloc _ _
 go_enter Tryz.func166,Tryz.ntmps166
 go_wp2_with (refine wpList_insert_am (KK:=strK) _ rfl _ _ _ 55 rfl 9 4 Tryz.underlying55 Tryz.underlying9 w.heap.size _ _ _ rfl rfl rfl (by assumption) (by assumption) (Nat.le_refl _) ?_;intro w1 hm1 hb1)
 refine bodyPost_ret (v:=.map (some w.heap.size)) (by simp[results,Tryz.results166,go_sem]) rfl ?_;refine⟨rfl,Eq.mp (congrArg (AMap strK w1 _) ?_) hm1,hb1⟩
 kernel_rfl
theorem zero_bool (w:World):(zeroValue 4).run Tryz.prog w = .ok (.bool false) w:=by go_simp
theorem keyword2_any (s:ByteArray) (w:World):Calls Tryz.prog 92 #[.string s] w fun e w'=>e = .returned (.bool (kwB s.data.toList))∧Below w.heap.size w w':=by
 have hlk:∀ (w':World) (r:Nat),AMap strK w' r kwMap→(Instr.lookup 55 (.map (some r)) (.string s) false).run Tryz.prog w' = .ok (.bool (kwB s.data.toList)) w':=fun w' r h=>by
  have:=run_lookup_am (P:=Tryz.prog) (KK:=strK) (t:=55) (kt:=9) (et:=4) Tryz.underlying55 Tryz.underlying9 zero_bool h s;rw[show lookM kwMap s=_ from lookM_words (.bool true) kws s]at this;refine Eq.trans this ?_;unfold kwB
  cases hasB kws s.data.toList <;> rfl
 have HLK:=kH hlk;clear hlk
 go_enter Tryz.func92,Tryz.ntmps92
 go_wp2_with fail
 refine(keywords_any w).mono ?_;rintro e w1 ⟨rfl,hm,hb⟩;have hl1:=HLK.out w1 _ hm
 go_wp2_with fail
 go_ret
 exact⟨rfl,hb⟩
theorem run_id (s:ByteArray) (w:World) (hs:s.size≤60000) :
 Calls Tryz.prog 93 #[.string s,.int .i64 0,.func (Fn.func 94) #[] #[]] w fun e w'=>e = .returned (.int .i64 (runM (fun i=>idB (bz s.data.toList i)) s.data.toList s.size 0:Nat))∧w=w':=by
 go_enter Tryz.func93,Tryz.ntmps93
 go_wp2_with fail
 go_loopg [1] s.size (fun gk s1 wr => ∃ k:Nat,k+gk=s.size∧s1 = .int .i64 (k:Int)∧runM (fun i=>idB (bz s.data.toList i)) s.data.toList s.size 0=runM (fun i=>idB (bz s.data.toList i)) s.data.toList gk k∧w=wr)
 case atStart=>exact⟨0,by omega,rfl,rfl,rfl⟩
 case round =>
  obtain⟨k,hk,rfl,hrun,rfl⟩:=hrel;have HRUN:=kH hrun;clear hrun
  cases gk with
  | zero =>
   have hke:k=s.size:=by omega
   subst hke
   go_wp2_with fail
   go_ret
   exact⟨by rw[HRUN.out];rfl,rfl⟩
  | succ gk =>
   have hkl:k < s.size:=by omega
   have hkl':(k:Int) < (s.size:Int):=by omega
   have hwr:IntKind.i64.wrap ((k:Int)+1)=(k:Int)+1:=IntWalk.i64_in _ (by omega)
   obtain⟨b,hb⟩:∃ b,idB (bz s.data.toList k)=b:=⟨_,rfl⟩
   have hc:=id_any (s[k]'hkl).toNat;rw[bz_get s k hkl,hb]at hc;rw[← bz_get s k hkl]at hc;have HC:=kH hc
   have HR2:Hid (runM (fun i=>idB (bz s.data.toList i)) s.data.toList s.size 0=if b=true then runM (fun i=>idB (bz s.data.toList i)) s.data.toList gk (k+1) else k):=kH (by
    rw[HRUN.out,runM,len_size,hb,decide_eq_true hkl]
    simp)
   clear hc HRUN hb
   cases b
   ·go_wp2_with (go_at_call 94;refine(HC.out _).mono ?_;rintro e w' ⟨rfl,rfl⟩)
    go_ret
    exact⟨by rw[HR2.out];rfl,rfl⟩
   ·go_wp2_with (go_at_call 94;refine(HC.out _).mono ?_;rintro e w' ⟨rfl,rfl⟩)
    go_roundg gk
    case measure=>omega
    case rel=>exact⟨k+1,by omega,by simp,by rw[HR2.out];rfl,rfl⟩
theorem run_digit (s:ByteArray) (w:World) (hs:s.size≤60000) :
 Calls Tryz.prog 93 #[.string s,.int .i64 0,.func (Fn.func 95) #[] #[]] w fun e w'=>e = .returned (.int .i64 (runM (fun i=>digitB (bz s.data.toList i)) s.data.toList s.size 0:Nat))∧w=w':=by
 go_enter Tryz.func93,Tryz.ntmps93
 go_wp2_with fail
 go_loopg [1] s.size (fun gk s1 wr => ∃ k:Nat,k+gk=s.size∧s1 = .int .i64 (k:Int)∧runM (fun i=>digitB (bz s.data.toList i)) s.data.toList s.size 0=runM (fun i=>digitB (bz s.data.toList i)) s.data.toList gk k∧w=wr)
 case atStart=>exact⟨0,by omega,rfl,rfl,rfl⟩
 case round =>
  obtain⟨k,hk,rfl,hrun,rfl⟩:=hrel;have HRUN:=kH hrun;clear hrun
  cases gk with
  | zero =>
   have hke:k=s.size:=by omega
   subst hke
   go_wp2_with fail
   go_ret
   exact⟨by rw[HRUN.out];rfl,rfl⟩
  | succ gk =>
   have hkl:k < s.size:=by omega
   have hkl':(k:Int) < (s.size:Int):=by omega
   have hwr:IntKind.i64.wrap ((k:Int)+1)=(k:Int)+1:=IntWalk.i64_in _ (by omega)
   obtain⟨b,hb⟩:∃ b,digitB (bz s.data.toList k)=b:=⟨_,rfl⟩
   have hc:=digit2_any (s[k]'hkl).toNat;rw[bz_get s k hkl,hb]at hc;rw[← bz_get s k hkl]at hc;have HC:=kH hc
   have HR2:Hid (runM (fun i=>digitB (bz s.data.toList i)) s.data.toList s.size 0=if b=true then runM (fun i=>digitB (bz s.data.toList i)) s.data.toList gk (k+1) else k):=kH (by
    rw[HRUN.out,runM,len_size,hb,decide_eq_true hkl]
    simp)
   clear hc HRUN hb
   cases b
   ·go_wp2_with (go_at_call 95;refine(HC.out _).mono ?_;rintro e w' ⟨rfl,rfl⟩)
    go_ret
    exact⟨by rw[HR2.out];rfl,rfl⟩
   ·go_wp2_with (go_at_call 95;refine(HC.out _).mono ?_;rintro e w' ⟨rfl,rfl⟩)
    go_roundg gk
    case measure=>omega
    case rel=>exact⟨k+1,by omega,by simp,by rw[HR2.out];rfl,rfl⟩
end Go.Proofs.YtoepemlnlpamlaaGreat
namespace Go.Proofs.YtoepemlnlpamlaaGreat
set_option maxRecDepth 100000
set_option maxHeartbeats 4000000
open Go.RowKit
theorem isEmpty_size (s:ByteArray):s.toList.isEmpty=decide (s.size=0):=by
 rw[ByteArray.toList_eq,Bool.eq_iff_iff];obtain⟨⟨l⟩⟩:=s;simp[ByteArray.size]
theorem name2_any (s:ByteArray) (w:World):Calls Tryz.prog 53 #[.string s] w fun e w'=>e = .returned (.bool (nameM s.data.toList))∧Below w.heap.size w w':=by
 have hem:=isEmpty_size s
 by_cases h0:s.size=0
 ·have he:s.toList.isEmpty=true:=by rw[hem];simp[h0]
  have hr:nameM s.data.toList=false:=by unfold nameM;rw[len_size,h0];rfl
  rw[hr];clear hem h0 hr
  go_enter Tryz.func53,Tryz.ntmps53
  go_wp2_with fail
  go_ret
  exact⟨rfl,Below.refl _ _⟩
 have he:s.toList.isEmpty=false:=by rw[hem];simp[h0]
 by_cases h16:16 < s.size
 ·have h16':(16:Int) < (s.size:Int):=by omega
  have hr:nameM s.data.toList=false:=by unfold nameM;rw[len_size,decide_eq_false (p:=s.size≤16) (by omega)];simp
  rw[hr];clear hem h0 hr h16
  go_enter Tryz.func53,Tryz.ntmps53
  go_wp2_with fail
  go_ret
  exact⟨rfl,Below.refl _ _⟩
 have h16':¬ (16:Int) < (s.size:Int):=by omega
 have hp:0 < s.size:=by omega
 have hp':(0:Int) < (s.size:Int):=by omega
 have hs6:s.size≤60000:=by omega
 obtain⟨b1,hb1⟩:∃ b,letterB (bz s.data.toList 0)=b:=⟨_,rfl⟩
 obtain⟨b2,hb2⟩:∃ b,kwB s.data.toList=b:=⟨_,rfl⟩
 obtain⟨n,hn⟩:∃ n,runM (fun i=>idB (bz s.data.toList i)) s.data.toList s.size 0=n:=⟨_,rfl⟩
 have hr:nameM s.data.toList=(b1 && !b2 && decide (n=s.size)):=by
  unfold nameM tokenM;rw[len_size,hb1,hb2,hn,decide_eq_true (p:=1≤s.size) (by omega),decide_eq_true (p:=s.size≤16) (by omega)]
  cases b1 <;> simp
 rw[hr];have hl:=letter2_any (s[0]'hp).toNat;rw[bz_get s 0 hp,hb1,← bz_get s 0 hp]at hl;have hk:=keyword2_any s;rw[hb2]at hk
 have hrn:=fun w=>run_id s w hs6
 rw[hn]at hrn;have HL:=kH hl;have HK:=kH hk;have HRN:=kH hrn;clear hr hb1 hb2 hn hl hk hrn h16 h0 hem
 go_enter Tryz.func53,Tryz.ntmps53
 go_wp2_with fail
 refine(HL.out w).mono ?_;rintro e w' ⟨rfl,rfl⟩
 cases b1
 ·go_wp2_with fail
  go_ret
  exact⟨rfl,Below.refl _ _⟩
 go_wp2_with fail
 refine(HK.out w).mono ?_;rintro e w1 ⟨rfl,hb⟩
 cases b2
 case true =>
  go_wp2_with fail
  go_ret
  exact⟨rfl,hb⟩
 go_wp2_with fail
 refine(HRN.out w1).mono ?_;rintro e w' ⟨rfl,rfl⟩
 go_wp2_with fail
 go_ret
 refine⟨ret_bool' ?_,hb⟩;rw[Bool.eq_iff_iff];simp;omega
theorem numM_run:∀ (s:Bytes) (n k:Nat) (t:Bytes),t=s.drop k→k≤s.length→(numM t n).isSome=decide (runM (fun i=>digitB (bz s i)) s (s.length - k) k=s.length):=by
 intro s n k t
 induction t generalizing n k with
 | nil =>
  intro h hk
  have:k=s.length:=by
   have h2:=congrArg List.length h;simp at h2;omega
  subst this;simp[numM,runM]
 | cons c t ih =>
  intro h hk
  have hkl:k < s.length:=by
   have h2:=congrArg List.length h;simp at h2;omega
  have hc:s[k]? = some c∧t=s.drop (k+1):=by
   have h3:=List.drop_eq_getElem_cons hkl;rw[← h]at h3
   injection h3 with h4 h5
   exact⟨by rw[h4];exact List.getElem?_eq_getElem hkl,h5⟩
  have hbz:bz s k=c.toNat:=by unfold bz;rw[List.getD_eq_getElem?_getD,hc.1];rfl
  obtain⟨m,hm⟩:∃ m,s.length - k=m+1:=⟨s.length - k - 1,by omega⟩
  rw[hm];unfold numM runM;rw[hbz,decide_eq_true hkl,Bool.true_and]
  by_cases hd:digitB c.toNat=true
  ·rw[if_pos hd,if_pos hd,ih _ (k+1) hc.2 hkl]
   rw[show s.length - (k+1)=m by omega]
  ·rw[if_neg hd,if_neg hd]
   simp;omega
theorem number2_any (s:ByteArray) (w:World):Calls Tryz.prog 172 #[.string s] w fun e w' => ∃ n,e = .returned (.tuple #[.int .i64 n,.bool (numberM s.data.toList).isSome])∧Below w.heap.size w w':=by
 have hem:=isEmpty_size s
 by_cases h0:s.size=0
 ·have he:s.toList.isEmpty=true:=by rw[hem];simp[h0]
  have hr:(numberM s.data.toList).isSome=false:=by unfold numberM;rw[len_size,h0];rfl
  rw[hr];clear hem h0 hr
  go_enter Tryz.func172,Tryz.ntmps172
  go_wp2_with fail
  refine bodyPost_ret (v:=.tuple #[.int .i64 0,.bool false]) (by simp[results,Tryz.results172,go_sem]) rfl ?_;exact⟨0,rfl,Below.refl _ _⟩
 have he:s.toList.isEmpty=false:=by rw[hem];simp[h0]
 by_cases h9:9 < s.size
 ·have h9':(9:Int) < (s.size:Int):=by omega
  have hr:(numberM s.data.toList).isSome=false:=by unfold numberM;rw[len_size,if_pos (.inr h9)];rfl
  rw[hr];clear hem h0 hr h9
  go_enter Tryz.func172,Tryz.ntmps172
  go_wp2_with fail
  refine bodyPost_ret (v:=.tuple #[.int .i64 0,.bool false]) (by simp[results,Tryz.results172,go_sem]) rfl ?_;exact⟨0,rfl,Below.refl _ _⟩
 have h9':¬ (9:Int) < (s.size:Int):=by omega
 have hs6:s.size≤60000:=by omega
 obtain⟨n,hn⟩:∃ n,runM (fun i=>digitB (bz s.data.toList i)) s.data.toList s.size 0=n:=⟨_,rfl⟩
 have hr:(numberM s.data.toList).isSome=decide (n=s.size):=by
  unfold numberM;rw[len_size,if_neg (by omega),numM_run s.data.toList 0 0 s.data.toList rfl (Nat.zero_le _),len_size];rw[show s.size - 0=s.size from rfl,hn]
 rw[hr]
 have hrn:=fun w=>run_digit s w hs6
 rw[hn]at hrn
 have hle:n≤s.size:=by
  rw[← hn]
  have:∀ (f a:Nat),a≤s.data.toList.length→runM (fun i=>digitB (bz s.data.toList i)) s.data.toList f a≤s.data.toList.length:=by
   intro f
   induction f with
   | zero=>intro a h;exact h
   | succ f ih =>
    intro a h;unfold runM;split
    ·rename_i h2
     simp at h2;exact ih _ (by simp;omega)
    ·exact h
  have h2:=this s.size 0 (Nat.zero_le _);rw[len_size]at h2;exact h2
 have HRN:=kH hrn;clear hr hn hrn h9 h0 hem
 by_cases hlt:n < s.size
 ·have hlt':(n:Int) < (s.size:Int):=by omega
  have hd:decide (n=s.size)=false:=decide_eq_false (by omega);rw[hd];clear hlt hd hle
  go_enter Tryz.func172,Tryz.ntmps172
  go_wp2_with fail
  refine(HRN.out w).mono ?_;rintro e w' ⟨rfl,rfl⟩
  go_wp2_with fail
  refine bodyPost_ret (v:=.tuple #[.int .i64 0,.bool false]) (by simp[results,Tryz.results172,go_sem]) rfl ?_;exact⟨0,rfl,Below.refl _ _⟩
 ·have hlt':¬ (n:Int) < (s.size:Int):=by omega
  have hd:decide (n=s.size)=true:=decide_eq_true (by omega);rw[hd];have hcv:=run_bytes_of_string (P:=Tryz.prog) w 9 254 5 s Tryz.underlying9 Tryz.underlying254 Tryz.underlying5
  obtain⟨W,hW⟩:∃ W:World,(w.drew.alloc (.cells (bytesRow s (grownCap w s.size 0 5)) 5 ((bytesRow s (grownCap w s.size 0 5)).size,(bytesRow s (grownCap w s.size 0 5)).size+1)))=W:=⟨_,rfl⟩
  rw[hW]at hcv
  have hbW:Below w.heap.size w W:=by rw[← hW];(repeat (first | exact Below.refl _ _ | assumption | refine Below.trans ?_ (Below.mono (by assumption) (by first | omega | (simp;done) | (simp;omega))) | refine Below.alloc ?_ (by first | omega | (simp;done) | (simp;omega)) _ | refine Below.setCell ?_ (by first | omega | (simp;done) | (simp;omega)) _ | refine Below.drew ?_ | refine below_drewN ?_ _))
  have hcell:∀ (k:Nat) (h:k < s.size),W.cell? ⟨w.heap.size,k,none⟩=some (.int .u8 ((s[k]'h).toNat:Int)):=by
   intro k h;have hk2:k < s.data.size:=h
   have hh:W.heap[w.heap.size]? = some (.cells (bytesRow s (grownCap w s.size 0 5)) 5 ((bytesRow s (grownCap w s.size 0 5)).size,(bytesRow s (grownCap w s.size 0 5)).size+1)):=by
    rw[← hW];exact heap_alloc_new w.drew _
   have hr:(bytesRow s (grownCap w s.size 0 5))[k]? = some (.int .u8 ((s[k]'h).toNat:Int)):=by
    unfold bytesRow;rw[Array.getElem?_append_left (by simpa using hk2)];simp only[Array.getElem?_map,Array.getElem?_eq_getElem hk2,Option.map_some];rfl
   simp[World.cell?,hh,hr]
  obtain⟨cap,hcap⟩:∃ c,grownCap w s.size 0 5=c:=⟨_,rfl⟩
  rw[hcap]at hcv;have HBW:=kH hbW;have HCELL:=kH hcell
  have hwl:w.heap.size < W.heap.size:=by rw[← hW];simp
  clear hlt hd hle hW hbW hcell hcap
  go_enter Tryz.func172,Tryz.ntmps172
  go_wp2_with fail
  refine(HRN.out w).mono ?_;rintro e w' ⟨rfl,rfl⟩
  go_wp2_with fail
  go_loopg [4,24] s.size (fun gk s4 s24 wr => ∃ (k:Nat) (n:Int),k+gk=s.size∧s4 = .int .i64 n∧s24 = .int .i64 (k:Int)∧W=wr)
  case atStart=>exact⟨0,0,by omega,rfl,rfl,rfl⟩
  case round =>
   obtain⟨k,m,hk,rfl,rfl,rfl⟩:=hrel
   cases gk with
   | zero =>
    have hke:k=s.size:=by omega
    subst hke
    go_wp2_with fail
    refine bodyPost_ret (v:=.tuple #[.int .i64 m,.bool true]) (by simp[results,Tryz.results172,go_sem]) rfl ?_;exact⟨m,rfl,HBW.out⟩
   | succ gk =>
    have hkl:k < s.size:=by omega
    have hkl':(k:Int) < (s.size:Int):=by omega
    have hwr:IntKind.i64.wrap ((k:Int)+1)=(k:Int)+1:=IntWalk.i64_in _ (by omega);have hck:=HCELL.out k hkl
    go_wp2_with fail
    go_roundg gk
    case measure=>omega
    case rel=>exact⟨k+1,_,by omega,rfl,by simp,rfl⟩
end Go.Proofs.YtoepemlnlpamlaaGreat
namespace Go.Proofs.YtoepemlnlpamlaaGreat
set_option maxRecDepth 100000
set_option maxHeartbeats 4000000
open Go.RowKit
def intCells (i:Int):List Value:=[.int .i64 i]
theorem indexI_any (A:Option Addr) (n c:Nat) (l:List Int) (x:Int) (w:World) (h1:RowAt 1 intCells w w.heap.size A l) (hl:l.length=n) (hn:n≤1000000) :
 Calls Tryz.prog 167 #[.slice A n c,.int .i64 x] w fun e w'=>(∃ i:Int,e = .returned (.int .i64 i)∧decide (0≤i)=l.any fun y=>decide (x=y))∧w=w':=by
 have H1:=kH h1;have HL1:=kH hl;clear h1 hl
 go_enter Tryz.func167,Tryz.ntmps167
 go_wp2_with fail
 go_loopg [8] n (fun gk s wr => ∃ k:Nat,k+gk=n∧s = .int .i64 k∧w=wr∧((l.take k).any fun y=>decide (x=y))=false)
 case atStart=>exact⟨0,by omega,rfl,rfl,rfl⟩
 case round =>
  obtain⟨k,hk,rfl,rfl,ht⟩:=hrel;have HK:=kH hk;have HT:=kH ht
  have hk':k≤n:=by omega
  clear hk ht
  by_cases hlt:k < n
  ·have e1:l[k]? = some (l[k]'(by rw[HL1.out];exact hlt)):=List.getElem?_eq_getElem _
   generalize l[k]'(by rw[HL1.out];exact hlt)=y at e1
   obtain⟨b1,o1,hA1,hb1,hc1⟩:=H1.out k _ e1;subst hA1
   have hx:w.cell? ⟨b1,o1+k,none⟩=some (.int .i64 y):=by simpa using hc1 0 _ rfl
   have hkn:(k:Int) < (n:Int):=by omega
   have hwr:IntKind.i64.wrap ((k:Int)+1)=(k:Int)+1:=IntWalk.i64_in _ (by omega);have E1:=kH e1;clear hc1 e1
   by_cases hxy:x=y
   ·have hq:(x == y)=true:=by simp[hxy]
    have hres:(l.any fun y=>decide (x=y))=true:=by
     rw[List.any_eq_true];exact⟨y,List.mem_of_getElem? E1.out,by simp[hxy]⟩
    have HRES:=kH hres;clear hres hxy
    go_wp2_with fail
    go_ret
    exact⟨⟨(k:Int),rfl,by rw[HRES.out];simp⟩,rfl⟩
   ·have hq:(x == y)=false:=by simp[hxy]
    have hsn:((l.take (k+1)).any fun y=>decide (x=y))=false:=by
     rw[List.take_add_one,E1.out,List.any_append,HT.out];simp[hxy]
    have HSN:=kH hsn;clear hsn hxy
    go_wp2_with fail
    go_roundg (gk - 1)
    case measure=>have:=HK.out;omega
    case rel=>exact⟨k+1,by have:=HK.out;omega,by simp,rfl,HSN.out⟩
  ·have hres:(l.any fun y=>decide (x=y))=false:=by
    have h:=HT.out;rw[List.take_of_length_le (by rw[HL1.out];omega)]at h;exact h
   have HRES:=kH hres;clear hres
   go_wp2_with fail
   go_ret
   exact⟨⟨-1,rfl,by rw[HRES.out];rfl⟩,rfl⟩
theorem containsI_any (A:Option Addr) (n c:Nat) (l:List Int) (x:Int) (w:World) (h1:RowAt 1 intCells w w.heap.size A l) (hl:l.length=n) (hn:n≤1000000) :
 Calls Tryz.prog 96 #[.slice A n c,.int .i64 x] w fun e w'=>e = .returned (.bool (l.any fun y=>decide (x=y)))∧w=w':=by
 have HI:=kH (indexI_any A n c l x w h1 hl hn);clear h1 hl
 go_enter Tryz.func96,Tryz.ntmps96
 go_wp2_with fail
 refine HI.out.mono ?_;rintro e w' ⟨⟨i,rfl,hi⟩,rfl⟩
 go_wp2_with fail
 go_ret
 exact⟨ret_bool' (by rw[← hi]),rfl⟩
theorem indexS_any (A:Option Addr) (n c:Nat) (l:List ByteArray) (x:ByteArray) (w:World) (h1:RowAt 1 strCells w w.heap.size A l) (hl:l.length=n) (hn:n≤1000000) :
 Calls Tryz.prog 87 #[.slice A n c,.string x] w fun e w'=>(∃ i:Int,e = .returned (.int .i64 i)∧decide (0≤i)=hasA l x)∧w=w':=by
 have H1:=kH h1;have HL1:=kH hl;clear h1 hl
 go_enter Tryz.func87,Tryz.ntmps87
 go_wp2_with fail
 go_loopg [8] n (fun gk s wr => ∃ k:Nat,k+gk=n∧s = .int .i64 k∧w=wr∧hasA (l.take k) x=false)
 case atStart=>exact⟨0,by omega,rfl,rfl,rfl⟩
 case round =>
  obtain⟨k,hk,rfl,rfl,ht⟩:=hrel;have HK:=kH hk;have HT:=kH ht
  have hk':k≤n:=by omega
  clear hk ht
  by_cases hlt:k < n
  ·have e1:l[k]? = some (l[k]'(by rw[HL1.out];exact hlt)):=List.getElem?_eq_getElem _
   generalize l[k]'(by rw[HL1.out];exact hlt)=y at e1
   obtain⟨b1,o1,hA1,hb1,hc1⟩:=H1.out k _ e1;subst hA1
   have hx:w.cell? ⟨b1,o1+k,none⟩=some (.string y):=by simpa using hc1 0 _ rfl
   have hkn:(k:Int) < (n:Int):=by omega
   have hwr:IntKind.i64.wrap ((k:Int)+1)=(k:Int)+1:=IntWalk.i64_in _ (by omega)
   have hsn:hasA (l.take (k+1)) x=(y.toList == x.toList):=by
    have h0:=HT.out;unfold hasA at h0 ⊢;rw[List.take_add_one,e1,List.any_append,h0];simp
   have E1:=kH e1;have HSN:=kH hsn
   obtain⟨q,hq⟩:∃ q,(y.toList == x.toList)=q:=⟨_,rfl⟩
   have hq2:(x.toList == y.toList)=q:=by rw[← hq,Bool.eq_iff_iff];simp only[beq_iff_eq];exact eq_comm
   have HQ:=kH hq;clear hc1 e1 hsn hq
   cases q
   ·go_wp2_with fail
    go_roundg (gk - 1)
    case measure=>have:=HK.out;omega
    case rel=>exact⟨k+1,by have:=HK.out;omega,by simp,rfl,by rw[HSN.out];exact HQ.out⟩
   ·have hres:hasA l x=true:=by
     unfold hasA;rw[List.any_eq_true];exact⟨y,List.mem_of_getElem? E1.out,HQ.out⟩
    have HRES:=kH hres;clear hres
    go_wp2_with fail
    go_ret
    exact⟨⟨(k:Int),rfl,by rw[HRES.out];simp⟩,rfl⟩
  ·have hres:hasA l x=false:=by
    have h:=HT.out;rw[List.take_of_length_le (by rw[HL1.out];omega)]at h;exact h
   have HRES:=kH hres;clear hres
   go_wp2_with fail
   go_ret
   exact⟨⟨-1,rfl,by rw[HRES.out];rfl⟩,rfl⟩
theorem containsS_any (A:Option Addr) (n c:Nat) (l:List ByteArray) (x:ByteArray) (w:World) (h1:RowAt 1 strCells w w.heap.size A l) (hl:l.length=n) (hn:n≤1000000) :
 Calls Tryz.prog 46 #[.slice A n c,.string x] w fun e w'=>e = .returned (.bool (hasA l x))∧w=w':=by
 have HI:=kH (indexS_any A n c l x w h1 hl hn);clear h1 hl
 go_enter Tryz.func46,Tryz.ntmps46
 go_wp2_with fail
 refine HI.out.mono ?_;rintro e w' ⟨⟨i,rfl,hi⟩,rfl⟩
 go_wp2_with fail
 go_ret
 exact⟨ret_bool' (by rw[← hi]),rfl⟩
def Ent (fn:Nat):Prop:=∀ (args:Array Value) (w:World),(callFunc fn args).run Tryz.prog w = .ok (.enter fn args) w
def KC (w w':World):Prop:=∀ (g:Nat) (cs:Array Value) (ty:TypeId) (fr:Nat × Nat),w.heap[g]? = some (.cells cs ty fr)→w'.heap[g]? = w.heap[g]?
theorem KC.trans {a b c:World} (h:KC a b) (k:KC b c):KC a c:=fun g cs ty fr hg=>by
 have e:=h g cs ty fr hg;exact(k g cs ty fr (e.trans hg)).trans e
theorem KC.of_below {w w':World} (hb:Below w.heap.size w w'):KC w w':=fun g _ _ _ hg=>hb.block g (Array.getElem?_eq_some_iff.1 hg).1
theorem KC.blk {w w':World} {g:Nat} {ty:TypeId} {cs:Array Value} (h:KC w w') (hb:Blk w g ty cs):Blk w' g ty cs:=Blk.keep hb (h g cs ty (0,0) hb)
theorem KC.cell {w w':World} (h:KC w w') {b o:Nat} {v:Value} (hc:w.cell? ⟨b,o,none⟩=some v):w'.cell? ⟨b,o,none⟩=some v:=by
 unfold World.cell? at hc ⊢
 cases hg:w.heap[b]? with
 | none=>rw[hg]at hc;cases hc
 | some ob =>
  cases ob with
  | cells cs ty fr =>
   have:=h b cs ty fr hg;simp only at hc ⊢;rw[this,hg];rw[hg]at hc;exact hc
  | _=>rw[hg]at hc;cases hc
theorem KC.lt {w w':World} (h:KC w w') {b o:Nat} {v:Value} (hc:w.cell? ⟨b,o,none⟩=some v):b < w'.heap.size:=by
 have:=h.cell hc;unfold World.cell? at this
 rcases Nat.lt_or_ge b w'.heap.size with h1 | h1
 ·exact h1
 ·simp[Array.getElem?_eq_none h1]at this
theorem RowAt.kc {α:Type} {size:Nat} {cells:α→List Value} {w w':World} {B:Nat} {A:Option Addr} {l:List α} (h:RowAt size cells w B A l) (hk:KC w w'):RowAt size cells w' B A l:=by
 intro k c hkc;obtain⟨b,off,h1,h2,h3⟩:=h k c hkc;exact⟨b,off,h1,h2,fun j v hj=>hk.cell (h3 j v hj)⟩
def KindFn (w:World) (v:Value) (p:Int→Bool):Prop :=
 ∃ fn cap,v = .func (Fn.func fn) #[] cap∧Ent fn∧∀ (k:Int) (w':World),KC w w'→w.heap.size≤w'.heap.size→Calls Tryz.prog fn (#[.int .i64 k] ++ cap) w' fun e w''=>e = .returned (.bool (p k))∧Below w'.heap.size w' w''
def TextFn (w:World) (v:Value) (p:ByteArray→Bool):Prop :=
 ∃ fn cap,v = .func (Fn.func fn) #[] cap∧Ent fn∧∀ (s:ByteArray) (w':World),KC w w'→w.heap.size≤w'.heap.size→Calls Tryz.prog fn (#[.string s] ++ cap) w' fun e w''=>e = .returned (.bool (p s))∧Below w'.heap.size w' w''
theorem KindFn.kc {w w':World} {v:Value} {p:Int→Bool} (h:KindFn w v p) (hb:KC w w') (hs:w.heap.size≤w'.heap.size):KindFn w' v p:=by
 obtain⟨fn,cap,h1,h2,h3⟩:=h;exact⟨fn,cap,h1,h2,fun k w'' hb' hs'=>h3 k w'' (hb.trans hb') (Nat.le_trans hs hs')⟩
theorem TextFn.kc {w w':World} {v:Value} {p:ByteArray→Bool} (h:TextFn w v p) (hb:KC w w') (hs:w.heap.size≤w'.heap.size):TextFn w' v p:=by
 obtain⟨fn,cap,h1,h2,h3⟩:=h;exact⟨fn,cap,h1,h2,fun s w'' hb' hs'=>h3 s w'' (hb.trans hb') (Nat.le_trans hs hs')⟩
theorem KindFn.below {w w':World} {v:Value} {p:Int→Bool} (h:KindFn w v p) (hb:Below w.heap.size w w'):KindFn w' v p:=h.kc (KC.of_below hb) hb.size
end Go.Proofs.YtoepemlnlpamlaaGreat
namespace Go.Proofs.YtoepemlnlpamlaaGreat
set_option maxRecDepth 100000
set_option maxHeartbeats 4000000
open Go.RowKit Go.Sort
abbrev ivs (l:List Int):List Value:=l.map (Value.int .i64)
theorem Sort_any (v:Value) (base n:Nat) (zs:List Int) (w:World) (h:OwnS w base 3 1 v n (ivs zs)) (hn:n≤1000000) :
 Calls Tryz.prog 101 #[v] w fun e w'=>e = .returned (.tuple #[])∧OwnS w' base 3 1 v n (ivs (zs.mergeSort fun x y=>decide (x≤y)))∧w.grownBy w' v.ownBlock:=by
 have hl:zs.length=n:=by have:=h.1;simpa using this
 by_cases h0:n=0
 ·subst h0
  have hz:zs = []:=List.eq_nil_of_length_eq_zero hl;subst hz;obtain⟨A,c,hA,_,_⟩:=h.shape;subst hA;refine(Tryz.slices_Sort_int_none A c w).mono ?_;rintro e w' ⟨rfl,rfl⟩;exact⟨rfl,by simpa using h,⟨rfl,rfl,rfl,Nat.le_refl _,fun _ _ _=>rfl⟩⟩
 ·rcases h.2 with ⟨_,h1⟩ | ⟨g,off,cap,cur,rfl,hb,hg,hnc,hm,hs,ht⟩
  ·omega
  ·have hlt:g < w.heap.size:=(Array.getElem?_eq_some_iff.1 hg).1
   have hH:Holds (Value.int .i64) w g off zs.toArray:=by
    intro j hj
    have hj':j < zs.length:=by simpa using hj
    refine⟨?_,by simp[World.frozen?,hg]⟩;obtain⟨g',off',cap',hv',_,_,_,_,hc⟩:=h.form (by omega)
    cases hv'
    refine hc j _ ?_;simp[hj']
   rw[← hl];refine(Tryz.slices_Sort_int g off cap zs w hH hlt (by omega)).mono ?_;rintro e w' ⟨rfl,q,os,rfl⟩
   have hheap:(grow (putRow (Value.int .i64) (Sort.ahead w q) g off (zs.mergeSort fun x y=>decide (x≤y)).toArray) os).heap[g]? = some (.cells (putCells (Value.int .i64) off (zs.mergeSort fun x y=>decide (x≤y)).toArray cur) 3 (0,0)):=by
    rw[heap_grow_old _ _ (by simpa using hlt)];simp[putRow,mapBlock,Sort.ahead,Array.getElem?_modify,hg,onCells]
   refine⟨rfl,⟨by simp,.inr ⟨g,off,cap,_,rfl,hb,hheap,by omega,hm,by simp[putCells];omega,?_⟩⟩,⟨rfl,rfl,rfl,by simp,fun k hk hne=>?_⟩⟩
   ·apply List.ext_getElem?
    intro j
    by_cases hj:j < zs.length
    ·rw[Nat.mul_one,List.getElem?_take_of_lt hj,List.getElem?_drop,Array.getElem?_toList]
     have h1:off+j < cur.size:=by omega
     simp[putCells,hj,h1]
    ·rw[Nat.mul_one,List.getElem?_take_eq_none (by omega),List.getElem?_eq_none (by simp;omega)]
   ·rw[heap_grow_old _ _ (by simpa using hk)]
    have hgk:g≠k:=fun e=>hne (by simp[Value.ownBlock,e])
    simp[putRow,mapBlock,Sort.ahead,Array.getElem?_modify,hgk]
end Go.Proofs.YtoepemlnlpamlaaGreat
namespace Go.Proofs.YtoepemlnlpamlaaGreat
set_option maxRecDepth 100000
set_option maxHeartbeats 4000000
open Go.RowKit
section
variable {K:Type} [DecidableEq K] {V:Type}
theorem posM_map (f:V→Value) (k:K):∀ (l:List (K × V)) (i:Nat),(posM k (l.map fun x=>(x.1,f x.2)) i).map (·.2)=(lookL l k).map f
 | [],_=>rfl
 | x :: l,i=>by
  simp only[List.map_cons,posM,lookL]
  by_cases h:k=x.1
  ·rw[if_pos h,if_pos h];rfl
  ·rw[if_neg h,if_neg h];exact posM_map f k l (i+1)
theorem lookM_map (f:V→Value) (l:List (K × V)) (k:K):lookM (l.map fun x=>(x.1,f x.2)) k=(lookL l k).map f:=posM_map f k l 0
theorem setM_cons_ne (x:K × Value) (m:List (K × Value)) (k:K) (v:Value) (h:k≠x.1):setM (x :: m) k v=x :: setM m k v:=by
 unfold setM
 have h1:posM k (x :: m) 0=(posM k m 0).map fun y=>(1+y.1,y.2):=by
  show (if k=x.1 then _ else posM k m (0+1))=_;rw[if_neg h,Nat.zero_add];exact posM_shift k m 1 0
 rw[h1]
 cases hp:posM k m 0 with
 | none=>rfl
 | some y=>simp[Nat.add_comm 1]
theorem setM_cons_eq (x:K × Value) (m:List (K × Value)) (k:K) (v:Value) (h:k=x.1):setM (x :: m) k v=(k,v) :: m:=by
 unfold setM
 have h1:posM k (x :: m) 0=some (0,x.2):=by
  show (if k=x.1 then _ else _)=_;rw[if_pos h]
 rw[h1];rfl
theorem setM_map (f:V→Value) (k:K) (v:V):∀ (l:List (K × V)),setM (l.map fun x=>(x.1,f x.2)) k (f v)=(setL l k v).map fun x=>(x.1,f x.2)
 | []=>rfl
 | x :: l=>by
  simp only[List.map_cons,setL]
  by_cases h:k=x.1
  ·rw[if_pos h,setM_cons_eq _ _ _ _ h];rfl
  ·rw[if_neg h,setM_cons_ne _ _ _ _ h,setM_map f k v l];rfl
end
theorem OwnS.set1 {w:World} {base:Nat} {e:TypeId} {g off c n:Nat} {xs:List Value} (h:OwnS w base e 1 (.slice (some ⟨g,off,none⟩) n c) n xs) (i:Nat) (hi:i < n) (u:Value) :
 OwnS (w.setCell ⟨g,off+i,none⟩ u) base e 1 (.slice (some ⟨g,off,none⟩) n c) n (xs.set i u):=by
 refine⟨by simpa using h.1,?_⟩
 rcases h.2 with ⟨h1,_⟩ | ⟨g1,off1,cap1,cur1,hv,hb,hg,hn,hm,hs,ht⟩
 ·cases h1
 ·simp only[Value.slice.injEq,Option.some.injEq,Addr.mk.injEq]at hv
  obtain⟨⟨rfl,rfl,_⟩,_,rfl⟩:=hv;refine .inr ⟨g,off,c,cur1.setIfInBounds (off+i) u,rfl,hb,by simp[World.setCell,Array.getElem?_modify,hg],hn,hm,by simpa using hs,?_⟩;rw[← ht,Array.toList_setIfInBounds]
  apply List.ext_getElem?
  intro j;simp only[List.getElem?_take,List.getElem?_drop,List.getElem?_set,List.length_take,List.length_drop]
  by_cases hj:j < n * 1
  ·rw[if_pos hj,if_pos hj]
   by_cases hij:i=j
   ·subst hij
    have:off+i < cur1.size:=by omega
    simp[this];omega
   ·simp[hij]
  ·rw[if_neg hj,if_neg hj]
   have:i≠j:=by omega
   simp[this]
theorem AMap.not_blk {K:Type} [DecidableEq K] {KK:KeyK K} {w:World} {r g:Nat} {m:List (K × Value)} {t:TypeId} {cs:Array Value} (h:AMap KK w r m) (hb:Blk w g t cs):r≠g:=by
 rintro rfl;obtain⟨es,clock,h1,_⟩:=h;have:w.heap[r]? = some (.cells cs t (0,0)):=hb;rw[h1]at this
 cases this
theorem OwnS.obj {w:World} {base:Nat} {e:TypeId} {size:Nat} {v:Value} {n:Nat} {xs:List Value} (h:OwnS w base e size v n xs):∀ g,v.ownBlock=some g→∃ cur,w.heap[g]? = some (.cells cur e (0,0)):=by
 intro g hv
 rcases h.2 with ⟨rfl,_⟩ | ⟨g1,off1,cap1,cur1,rfl,_,hg1,_⟩
 ·cases hv
 ·simp[Value.ownBlock]at hv
  subst hv;exact⟨cur1,hg1⟩
theorem AMap.not_own {K:Type} [DecidableEq K] {KK:KeyK K} {w:World} {r:Nat} {m:List (K × Value)} {base:Nat} {e:TypeId} {size:Nat} {v:Value} {n:Nat} {xs:List Value} (h:AMap KK w r m) (ho:OwnS w base e size v n xs):v.ownBlock≠some r:=by
 intro hv;obtain⟨cur,hg⟩:=ho.obj r hv;obtain⟨es,clock,h1,_⟩:=h;rw[h1]at hg
 cases hg
def intV (l:List (Int × Int)):List (Int × Value):=l.map fun x=>(x.1,.int .i64 x.2)
def layV (l:Lay):List (ByteArray × Value):=l.map fun x=>(x.1,.int .i64 x.2)
def dcCells (d:Dc):List Value:=[.int .i64 d.kind,.string d.name,.int .i64 d.node,.int .i64 d.owner]
def pbCells (p:Int × Dg):List Value:=[.int .i64 p.1,.int .i64 p.2.code,.int .i64 p.2.at_,.int .i64 p.2.end_,.string p.2.text,.slice none 0 0]
structure RC where
 base:Nat
 rp:Nat
 g:Nat
 f:Nat
 k:Nat
 vi:Nat
 uA:Option Addr
 uc:Nat
structure RV where
 dA:Option Addr
 dc:Nat
 pA:Option Addr
 pc:Nat
 vals:List (Int × Value)
def VisAt (w:World) (base:Nat) (ub:Option Nat):List (Int × List Int)→List (Int × Value)→Prop
 | [],vals=>vals = []
 | x :: l,vals => ∃ v vs,vals=(x.1,v) :: vs∧OwnS w base 3 1 v x.2.length (ivs x.2)∧(∀ g,v.ownBlock=some g→ub≠some g∧∀ y ∈ vs,y.2.ownBlock≠some g)∧VisAt w base ub l vs
theorem VisAt.of_block {w w':World} {base:Nat} {ub:Option Nat}:∀ {l:List (Int × List Int)} {vals:List (Int × Value)},VisAt w base ub l vals →
 (∀ g cur,w.heap[g]? = some (.cells cur 3 (0,0))→ub≠some g→w'.heap[g]? = w.heap[g]?)→VisAt w' base ub l vals
 | [],_,h,_=>h
 | _ :: _,_,⟨v,vs,h1,h2,h3,h4⟩,hk=>⟨v,vs,h1,h2.of_block fun g hg=>by obtain⟨cur,ho⟩:=h2.obj g hg;exact hk g cur ho (h3 g hg).1,h3,VisAt.of_block h4 hk⟩
structure RSAt (E:RC) (G:Glob) (r:RS) (V:RV) (w:World):Prop where
 blk:Blk w E.rp 75 #[.map (some E.g),.map (some E.f),.map (some E.k),.slice V.dA r.ds.length V.dc,.slice E.uA r.uses.length E.uc,.map (some E.vi),.slice V.pA r.probs.length V.pc,.int .i64 (r.next:Int),.int .i64 r.owner]
 gl:AMap strK w E.g (layV G.globals)
 fl:AMap strK w E.f (layV G.fields)
 kn:AMap intK w E.k (intV G.kinds)
 vi:AMap intK w E.vi V.vals
 vis:VisAt w E.base (Value.slice E.uA r.uses.length E.uc).ownBlock r.vis V.vals
 ds:OwnS w E.base 49 4 (.slice V.dA r.ds.length V.dc) r.ds.length (r.ds.flatMap dcCells)
 us:OwnS w E.base 3 1 (.slice E.uA r.uses.length E.uc) r.uses.length (ivs r.uses)
 ps:OwnS w E.base 80 6 (.slice V.pA r.probs.length V.pc) r.probs.length (r.probs.flatMap pbCells)
 low:E.base≤E.rp∧E.base≤E.vi
 apart:E.vi≠E.g∧E.vi≠E.f∧E.vi≠E.k
def Tp (E:RC) (M:Nat→Prop) (w:World) (g:Nat):Prop :=
 E.base≤g∧((∃ cs t fr,w.heap[g]? = some (.cells cs t fr)∧(t=75∨t=80∨t=49∨E.uA.map (·.block)=some g))∨((∃ es ck,w.heap[g]? = some (.map es ck))∧M g))
def KX (E:RC) (M:Nat→Prop) (w w':World):Prop:=Since (Tp E M w) w w'
section
variable {E:RC} {M M':Nat→Prop} {w w1 w':World}
theorem KX.refl (E:RC) (M:Nat→Prop) (w:World):KX E M w w:=Since.refl _ _
theorem KX.trans (h:KX E M w w1) (k:KX E M' w1 w') (hM:∀ g,M' g→M g∨w.heap.size≤g):KX E M w w':=by
 refine h.step k fun g hg=>?_
 by_cases hlt:g < w.heap.size
 ·left
  by_cases hT:Tp E M w g
  ·exact hT
  ·have he:=h.block g hlt hT
   obtain⟨h1,h2⟩:=hg;rw[he]at h2;refine⟨h1,h2.imp id fun ⟨h3,h4⟩=>⟨h3,?_⟩⟩
   rcases hM g h4 with h5 | h5
   ·exact h5
   ·omega
 ·right
  omega
theorem KX.mono (h:KX E M w w') (hM:∀ g,M g→M' g):KX E M' w w':=Since.mono h fun _ ⟨h1,h2⟩=>⟨h1,h2.imp id fun ⟨h3,h4⟩=>⟨h3,hM _ h4⟩⟩
theorem KX.of_below (hb:Below w.heap.size w w'):KX E M w w':=(Since.refl _ _).below hb
theorem KX.low (h:KX E M w w') (hB:E.base≤w.heap.size):Below E.base w w':=Since.toBelow h hB fun _ hk=>hk.1
theorem KX.blk (h:KX E M w w') {g:Nat} {t:TypeId} {cs:Array Value} (hb:Blk w g t cs) (h1:t≠75) (h2:t≠80) (h3:t≠49) (h4:E.uA.map (·.block)≠some g):Blk w' g t cs:=by
 refine Blk.since hb h fun ⟨_,h5⟩=>?_
 have hb':w.heap[g]? = some (.cells cs t (0,0)):=hb
 rcases h5 with ⟨cs',t',fr',h6,h7⟩ | ⟨⟨es,ck,h6⟩,_⟩
 ·rw[hb']at h6
  simp at h6;obtain⟨_,rfl,_⟩:=h6
  rcases h7 with h7 | h7 | h7 | h7
  ·exact h1 h7
  ·exact h2 h7
  ·exact h3 h7
  ·exact h4 h7
 ·rw[hb']at h6
  cases h6
theorem KX.amap {K:Type} [DecidableEq K] {KK:KeyK K} {r:Nat} {m:List (K × Value)} (h:KX E M w w') (ha:AMap KK w r m) (hM:¬ M r):AMap KK w' r m:=by
 refine AMap.since ha h fun ⟨_,h5⟩=>?_
 obtain⟨es',ck',h8,_⟩:=ha
 rcases h5 with ⟨cs',t',fr',h6,h7⟩ | ⟨_,h6⟩
 ·rw[h8]at h6
  cases h6
 ·exact hM h6
end
def ScAt (w:World) (base:Nat):Option Addr→Scope→List Nat→Prop
 | p,[],ms=>p=none∧ms = []
 | p,x :: s,ms => ∃ b m p' ms',p=some ⟨b,0,none⟩∧ms=m :: ms'∧base≤b∧base≤m∧Blk w b 95 #[.pointer p',.map (some m)]∧AMap strK w m (layV x)∧ScAt w base p' s ms'
theorem ScAt.kx {E:RC} {M:Nat→Prop} {w w':World} (h:KX E M w w') (hu:∀ g cs,E.uA.map (·.block)=some g→w.heap[g]?≠some (.cells cs 95 (0,0))):∀ {s:Scope} {p:Option Addr} {ms:List Nat},ScAt w E.base p s ms→(∀ m ∈ ms,¬ M m)→ScAt w' E.base p s ms
 | [],_,_,hs,_=>hs
 | _ :: _,_,_,⟨b,m,p',ms',h1,h2,h3,h4,h5,h6,h7⟩,hM=>by
  subst h2;exact⟨b,m,p',ms',h1,rfl,h3,h4,h.blk h5 (by decide) (by decide) (by decide) (fun hg=>hu b _ hg h5),h.amap h6 (hM m (by simp)),ScAt.kx h hu h7 fun x hx=>hM x (by simp[hx])⟩
end Go.Proofs.YtoepemlnlpamlaaGreat
namespace Go.Proofs.YtoepemlnlpamlaaGreat
set_option maxRecDepth 100000
set_option maxHeartbeats 4000000
open Go.RowKit
theorem zero_int (w:World):(zeroValue 3).run Tryz.prog w = .ok (.int .i64 0) w:=by go_simp
theorem lookupOk_lay (w:World) (r:Nat) (l:Lay) (h:AMap strK w r (layV l)) (x:ByteArray) :
 (Instr.lookup 70 (.map (some r)) (.string x) true).run Tryz.prog w = .ok (.tuple #[.int .i64 ((lookL l x).getD 0),.bool (lookL l x).isSome]) w:=by
 have:=run_lookupOk_am (P:=Tryz.prog) (KK:=strK) (t:=70) (kt:=9) (et:=3) Tryz.underlying70 Tryz.underlying9 zero_int h x;unfold layV at this;rw[lookM_map]at this
 cases hl:lookL l x with
 | none=>rw[hl]at this;exact this
 | some k=>rw[hl]at this;exact this
theorem inner_any (p:Option Addr) (w:World) :
 Calls Tryz.prog 48 #[.pointer p] w fun e w' => ∃ b m,e = .returned (.pointer (some ⟨b,0,none⟩))∧w.heap.size≤b∧w.heap.size≤m∧Blk w' b 95 #[.pointer p,.map (some m)]∧AMap strK w' m []∧Below w.heap.size w w':=by
 have hmm:=@run_makeMap Tryz.prog
 go_enter Tryz.func48,Tryz.ntmps48
 go_wp2_with fail
 go_ret
 refine⟨w.heap.size+1,w.heap.size,rfl,by omega,Nat.le_refl _,?_,(AMap.made w).alloc _,(below_alloc _ _).trans ((below_alloc _ _).mono (by simp))⟩;have:=Blk.new (w.alloc (.map #[] 0)) 95 #[.pointer p,.map (some w.heap.size)]
 simpa using this
theorem find_any (base:Nat) (x:ByteArray) (w:World):∀ (s:Scope) (p:Option Addr) (ms:List Nat),ScAt w base p s ms →
 Calls Tryz.prog 45 #[.pointer p,.string x] w fun e w'=>e = .returned (.tuple #[.int .i64 ((findS s x).getD 0),.bool (findS s x).isSome])∧w'=w:=by
 intro s
 induction s with
 | nil =>
  rintro p ms ⟨rfl,-⟩
  go_enter Tryz.func45,Tryz.ntmps45
  go_wp2_with fail
  go_ret2
  exact⟨rfl,rfl⟩
 | cons l s ih =>
  rintro p ms ⟨b,m,p',ms',rfl,rfl,h1,h2,hb,hm,hs⟩;have hih:=ih p' ms' hs;have hlk:=lookupOk_lay w m l hm x;have c0:=hb.cell 0;have c1:=hb.cell 1;have hlt:=hb.lt;clear ih hb hm hs
  cases hl:lookL l x with
  | none =>
   rw[hl]at hlk;simp only[Option.getD_none,Option.isSome_none]at hlk
   have hf:findS (l :: s) x=findS s x:=by
    show (match layM l x with | some k=>some k | none=>findS s x)=_;rw[show layM l x=none from hl]
   rw[hf]
   generalize findS s x=fx at hih ⊢
   clear hf hl;have HIH:=kH hih;clear hih
   go_enter Tryz.func45,Tryz.ntmps45
   go_wp2_with fail
   refine HIH.out.mono ?_;rintro e w' ⟨rfl,rfl⟩
   go_wp2_with fail
   go_ret2
   exact⟨rfl,rfl⟩
  | some k =>
   rw[hl]at hlk;simp only[Option.getD_some,Option.isSome_some]at hlk
   have hf:findS (l :: s) x=some k:=by
    show (match layM l x with | some k=>some k | none=>findS s x)=_;rw[show layM l x=some k from hl]
   rw[hf];clear hf hl hih
   go_enter Tryz.func45,Tryz.ntmps45
   go_wp2_with fail
   go_ret2
   exact⟨rfl,rfl⟩
end Go.Proofs.YtoepemlnlpamlaaGreat
