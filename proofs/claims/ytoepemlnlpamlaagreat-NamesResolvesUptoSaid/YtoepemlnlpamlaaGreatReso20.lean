/- The law NamesResolves holds where what it reads is of bulk at most 1048576: it returns true, and its argument reads as before. Part 20: Shp8 Fits. -/
import Derived.Laws.EntriesVeiled
import Derived.Test.YtoepemlnlpamlaaGreatReso17
import Derived.Test.YtoepemlnlpamlaaGreatReso19
set_option maxRecDepth 100000
set_option maxHeartbeats 4000000
namespace Go.Proofs.YtoepemlnlpamlaaGreat
open Go.RowKit
theorem op_136:jA 136:=by
 intro w0 b1 b5 v2 v4 v5 listed a w Q hs hI hi;obtain⟨o,ho,hd,hop,hg⟩:=ma so_136;have h0:listed.getD 0 false=true:=zM hi (by kernel_rfl);have hlt:136<listed.size:=by have:=(abH.1 ho).1;omega
 obtain⟨r,m,h1,h2,h3,h4,h5,h6,h7⟩:=hI.oo h0
 have hp:∀u,u≠118->(a.put o.dst (.map (some r))).tmps[u]? =a.tmps[u]? :=fun u hu=>by
  rw[hd];show(a.tmps.setIfInBounds 118 _)[u]? =_;rw[Array.getElem?_setIfInBounds_ne (Ne.symm hu)]
 refine zP (o:=o) ho hg ?_;unfold Oper.wp
 have hrun:(execOp a.eval o).run Tryz.prog w= .ok (.value (.map (some r))) w:=by
  simp only[execOp,hop];go_simp
 rw[hrun,Oper.upon_value];refine⟨?_,(hp 1 (by omega)).trans hI.t1,(hp 2 (by omega)).trans hI.t2,(hp 3 (by omega)).trans hI.t3,(hp 4 (by omega)).trans hI.t4,(hp 5 (by omega)).trans hI.t5,hI.k1,hI.k2,hI.k4,hI.k5,hI.q5,?_,?_,?_,hI.below,?_⟩
 ·rw[hd]
  show(a.tmps.setIfInBounds 118 _).size=119;simpa using hI.size
 ·exact hI.tmp.put hs (fun t v h=>h) (Lj KI) ho hd (by rw[hI.size];omega) trivial
 ·intro _
  refine⟨r,m,(hp 11 (by omega)).trans h1,h2,h3,h4,fun j k hj hl=>?_,fun _=>?_,fun hl=>?_⟩
  ·have hne:j≠136:=by rintro rfl;cases hj
   rw[eO hne]at hl;exact h5 j k hj hl
  ·rw[hd]
   show(a.tmps.setIfInBounds 118 _)[118]? =_;simp[hI.size]
  ·rw[eO (by omega)]at hl
   exact(hp 0 (by omega)).trans (h7 hl)
 ·intro j hj hl
  rw[eO (by omega)];exact h0
 ·rw[hd]
  exact hI.defers
theorem op_137:jA 137:=by
 intro w0 b1 b5 v2 v4 v5 listed a w Q hs hI hi;obtain⟨o,ho,hd,hop,hg⟩:=ma so_137;have h136:listed.getD 136 false=true:=zM hi (by kernel_rfl);have h0:listed.getD 0 false=true:=hI.ord 136 (.inr (.inl rfl)) h136;obtain⟨r,m,h1,h2,h3,h4,h5,h6,h7⟩:=hI.oo h0;have h118:=h6 h136
 have hp:∀u,u≠0->(a.put o.dst (.map (some r))).tmps[u]? =a.tmps[u]? :=fun u hu=>by
  rw[hd];show(a.tmps.setIfInBounds 0 _)[u]? =_;rw[Array.getElem?_setIfInBounds_ne (Ne.symm hu)]
 refine zP (o:=o) ho hg ?_;unfold Oper.wp
 have hrun:(execOp a.eval o).run Tryz.prog w= .ok (.value (.map (some r))) w:=by
  simp only[execOp,hop];go_simp
 rw[hrun,Oper.upon_value];refine⟨?_,(hp 1 (by omega)).trans hI.t1,(hp 2 (by omega)).trans hI.t2,(hp 3 (by omega)).trans hI.t3,(hp 4 (by omega)).trans hI.t4,(hp 5 (by omega)).trans hI.t5,hI.k1,hI.k2,hI.k4,hI.k5,hI.q5,?_,?_,?_,hI.below,?_⟩
 ·rw[hd]
  show(a.tmps.setIfInBounds 0 _).size=119;simpa using hI.size
 ·exact hI.tmp.put hs (fun t v h=>h) (Lj KI) ho hd (by rw[hI.size];omega) trivial
 ·intro _
  refine⟨r,m,(hp 11 (by omega)).trans h1,h2,h3,h4,fun j k hj hl=>?_,fun hl=>?_,fun _=>?_⟩
  ·have hne:j≠137:=by rintro rfl;cases hj
   rw[eO hne]at hl;exact h5 j k hj hl
  ·rw[eO (by omega)]at hl
   exact(hp 118 (by omega)).trans (h6 hl)
  ·rw[hd]
   show(a.tmps.setIfInBounds 0 _)[0]? =_;simp[hI.size]
 ·intro j hj hl
  rw[eO (by omega)];exact h0
 ·rw[hd]
  exact hI.defers
theorem op_all:∀i,i<138->jA i
 | 0,_=>op_0 so_0
 | 1,_=>kB 12 TX.e
 | 2,_=>kN 0 12
 | 3,_=>kI2 13 3 5
 | 4,_=>kO 14 13 _
 | 5,_=>Yl 15 TX.e (KP.t 14 _)
 | 6,_=>kN 2 15
 | 7,_=>kL 16
 | 8,_=>TQ 17 4
 | 9,_=>kO 18 17 _
 | 10,_=>kBm 19 (TX.t 16 _) (KP.t 18 _)
 | 11,_=>kN 3 19
 | 12,_=>kL 20
 | 13,_=>TQ 21 9
 | 14,_=>kO 22 21 _
 | 15,_=>NJ 23 (KP.t 22 _)
 | 16,_=>zk 24 (TX.t 20 _) 23 _
 | 17,_=>kN 4 24
 | 18,_=>kL 25
 | 19,_=>TQ 26 6
 | 20,_=>kO 27 26 _
 | 21,_=>kM4 28
 | 22,_=>kM2 29
 | 23,_=>kF3 30 (KP.t 27 _) (KP.t 28 _) (KP.t 29 _)
 | 24,_=>zk 31 (TX.t 25 _) 30 _
 | 25,_=>kN 5 31
 | 26,_=>kI2 32 7 8
 | 27,_=>kO 33 32 _
 | 28,_=>Yl 34 TX.e (KP.t 33 _)
 | 29,_=>kN 6 34
 | 30,_=>kL 35
 | 31,_=>kM4 36
 | 32,_=>NJ 37 (KP.t 36 _)
 | 33,_=>zk 38 (TX.t 35 _) 37 _
 | 34,_=>kN 7 38
 | 35,_=>kL 39
 | 36,_=>kM4 40
 | 37,_=>NJ 41 (KP.t 40 _)
 | 38,_=>zk 42 (TX.t 39 _) 41 _
 | 39,_=>kN 8 42
 | 40,_=>op_40
 | 41,_=>kB 44 (TX.t 43 _)
 | 42,_=>kN 9 44
 | 43,_=>kB 45 TX.n
 | 44,_=>kN 10 45
 | 45,_=>Yl 46 TX.e KP.s
 | 46,_=>kN 11 46
 | 47,_=>kL 47
 | 48,_=>kM4 48
 | 49,_=>Aq 49
 | 50,_=>Yk 50 (KP.t 48 _) (KP.t 49 _)
 | 51,_=>zk 51 (TX.t 47 _) 50 _
 | 52,_=>kN 12 51
 | 53,_=>Aq 52
 | 54,_=>Yk 53 KP.p (KP.t 52 _)
 | 55,_=>zk 54 TX.e 53 _
 | 56,_=>kN 13 54
 | 57,_=>Aq 55
 | 58,_=>kM2 56
 | 59,_=>kI2 57 11 14
 | 60,_=>kO 58 57 _
 | 61,_=>kQ 59 58 _
 | 62,_=>kF3 60 (KP.t 55 _) (KP.t 56 _) (KP.t 59 _)
 | 63,_=>zk 61 TX.e 60 _
 | 64,_=>kN 14 61
 | 65,_=>Aq 62
 | 66,_=>kM2 63
 | 67,_=>Yk 64 (KP.t 62 _) (KP.t 63 _)
 | 68,_=>zk 65 TX.e 64 _
 | 69,_=>kN 15 65
 | 70,_=>kL 66
 | 71,_=>Aq 67
 | 72,_=>Aq 68
 | 73,_=>kM2 69
 | 74,_=>kF3 70 (KP.t 67 _) (KP.t 68 _) (KP.t 69 _)
 | 75,_=>zk 71 (TX.t 66 _) 70 _
 | 76,_=>kN 16 71
 | 77,_=>Aq 72
 | 78,_=>kQ 73 72 _
 | 79,_=>NJ 74 (KP.t 73 _)
 | 80,_=>zk 75 TX.e 74 _
 | 81,_=>kN 17 75
 | 82,_=>Aq 76
 | 83,_=>NJ 77 (KP.t 76 _)
 | 84,_=>zk 78 TX.e 77 _
 | 85,_=>kN 18 78
 | 86,_=>kL 79
 | 87,_=>Aq 80
 | 88,_=>Yl 81 (TX.t 79 _) (KP.t 80 _)
 | 89,_=>kN 19 81
 | 90,_=>kL 82
 | 91,_=>kB 83 (TX.t 82 _)
 | 92,_=>kN 20 83
 | 93,_=>TQ 84 20
 | 94,_=>kO 85 84 _
 | 95,_=>Aq 86
 | 96,_=>Yk 87 (KP.t 85 _) (KP.t 86 _)
 | 97,_=>zk 88 TX.e 87 _
 | 98,_=>kN 21 88
 | 99,_=>kL 89
 | 100,_=>TQ 90 20
 | 101,_=>kO 91 90 _
 | 102,_=>NJ 92 (KP.t 91 _)
 | 103,_=>zk 93 (TX.t 89 _) 92 _
 | 104,_=>kN 22 93
 | 105,_=>TQ 94 20
 | 106,_=>kO 95 94 _
 | 107,_=>NJ 96 (KP.t 95 _)
 | 108,_=>zk 97 TX.e 96 _
 | 109,_=>kN 23 97
 | 110,_=>kB 98 TX.n
 | 111,_=>kN 24 98
 | 112,_=>kS2 99 ⟨#[116,114,117,101]⟩ ⟨#[102,97,108,115,101]⟩
 | 113,_=>kW 100 99 _
 | 114,_=>kB 101 (TX.t 100 _)
 | 115,_=>kN 25 101
 | 116,_=>Aq 102
 | 117,_=>kBm 103 TX.e (KP.t 102 _)
 | 118,_=>kN 26 103
 | 119,_=>kL 104
 | 120,_=>Aq 105
 | 121,_=>Yl 106 (TX.t 104 _) (KP.t 105 _)
 | 122,_=>kN 27 106
 | 123,_=>kS2 107 ⟨#[45]⟩ ⟨#[110,111,116]⟩
 | 124,_=>kW 108 107 _
 | 125,_=>Aq 109
 | 126,_=>NJ 110 (KP.t 109 _)
 | 127,_=>zk 111 (TX.t 108 _) 110 _
 | 128,_=>kN 28 111
 | 129,_=>op_129
 | 130,_=>kW 113 112 _
 | 131,_=>Aq 114
 | 132,_=>Aq 115
 | 133,_=>Yk 116 (KP.t 114 _) (KP.t 115 _)
 | 134,_=>zk 117 (TX.t 113 _) 116 _
 | 135,_=>kN 29 117
 | 136,_=>op_136
 | 137,_=>op_137
 | i+138,h=>absurd h (by omega)
theorem I9{P:Program}{Q:Exit->Act->World->Prop}{id:Nat}{a:Act}{w:World}{ops:Array Oper}(l:List Oper)(he:ops=l.toArray)(I:Array Bool->Act->World->Prop)(hm:P.follows .mixedOrders=true)
 (Eh:∀(i:Nat) (o:Oper),l.toArray[i]? =some o->∀e∈o.after,e.on<i)
 (h0:I (Array.replicate l.toArray.size false) a w.drew)
 (hstep:∀listed a w i,listed.size=l.toArray.size->I listed a w->i∈Region.ready .any l.toArray listed->wpOp P l.toArray (NoPanic Q) i (I (listed.setIfInBounds i true)) a w)
 (hend:∀listed a w,listed.size=l.toArray.size->(∀i,i<l.toArray.size->listed.getD i true=true)->I listed a w->Q .normal a w):(Code.region id ops true).wp P Q a w:=by
 subst he;exact OD I hm Eh h0 hstep hend
theorem XN(n:Nat)(h:30<=n):nM n=none:=by
 unfold nM;split<;>first|omega|rfl
def Yp:Bool:=(List.range 30).all fun n=> !(nM n).isSome || (List.range 138).any fun i=>kD i==some (n:Int)
theorem ins_chk:Yp=true:=by kernel_rfl
theorem ins_of{k:Int}(h:(lK k).isSome=true):∃i,i<138/\kD i=some k:=by
 cases k with
 | negSucc n=>cases h
 | ofNat n=>
  have hs:(nM n).isSome=true:=h;by_cases hn:n<30
  ·have hc:=ins_chk
   unfold Yp at hc;rw[List.all_eq_true]at hc;have h1:=hc n (by simpa using hn);rw[hs]at h1;simp only[Bool.not_true,Bool.false_or,List.any_eq_true,beq_iff_eq]at h1;obtain⟨i,h2,h3⟩:=h1;exact⟨i,by simpa using h2,h3⟩
  ·rw[XN n (by omega)]at hs
   cases hs
def Ke(w:World)(r:Nat):Prop:=∃m,aY kC w r m/\(∀x∈m,∃sh,lK x.1=some sh/\ql w x.2 sh)/\∀k,(lK k).isSome=true->(nD m k).isSome=true
theorem U6(w:World):Calls Tryz.prog 141 #[] w fun e w'=> ∃r,e= .returned (.map (some r))/\Ke w' r/\Below w.heap.size w w':=by
 go_enter Tryz.func141,Tryz.ntmps141
 go_wp2_with fail
 generalize hW1:w.alloc (.cells #[.func (Fn.func 53) #[] #[]] 99)=W1
 have hb1:Below w.heap.size w W1:=by rw[<- hW1];exact ag _ _
 have hk1:ai W1 w.heap.size 99 #[.func (Fn.func 53) #[] #[]]:=by rw[<- hW1];exact ai.new w _ _
 have hs1:W1.heap.size=w.heap.size+1:=by rw[<- hW1];simp
 rw[<- hs1];have hr1:=JI W1 3 [11];have hb1':=ag W1 (.cells #[.int .i64 11] 3);clear hW1 hs1;refine(TI (some ⟨W1.heap.size,0,none⟩) 1 1 [11] _ hr1 rfl (by omega)).mono ?_;rintro e w2 ⟨v2,rfl,hf2,hb2⟩;have lH:Below w.heap.size w w2:=(hb1.trans (hb1'.mono hb1.size)).trans (hb2.mono (abF hb1.size hb1'.size));have hk2:ai w2 w.heap.size 99 #[.func (Fn.func 53) #[] #[]]:=hk1.below ((hb1'.trans (hb2.mono hb1'.size)).mono (abE _)) hk1.lt;obtain⟨fn2,cap2,hv2⟩:=FD hf2;subst hv2;have HF2:=kH hf2;have GH:=kH lH;have I1:=kH hk2;clear hb1 hk1 hr1 hb1' hb2 hf2 lH hk2;go_wp2_with fail
 refine(EG (.func (Fn.func 192) #[] #[]) di w2 (Ym w2)).mono ?_;rintro e w3 ⟨v4,rfl,Ua,hb3⟩;obtain⟨fn4,cap4,hv4⟩:=FD Ua;subst hv4;have HF4:=kH Ua;have HF23:=kH (HF2.out.below hb3);have oF:=kH (GH.out.trans (hb3.mono GH.out.size));have gM:=kH (I1.out.below hb3 I1.out.lt);clear Ua hb3;go_wp2_with fail
 have hr3:=Bv w3 9 CV;have aaR:=ag w3 (.cells #[.string ⟨#[105,110,116]⟩,.string ⟨#[98,111,111,108]⟩] 9);refine(Pg (some ⟨w3.heap.size,0,none⟩) 2 2 CV _ hr3 rfl (by omega)).mono ?_;rintro e w4 ⟨v5,rfl,hf5,hb4⟩;obtain⟨fn5,cap5,hv5⟩:=Nq hf5;subst hv5;have oz:Below w3.heap.size w3 w4:=aaR.trans (hb4.mono aaR.size);have HF5:=kH hf5;have HF24:=kH (HF23.out.below oz);have HF44:=kH (HF4.out.below oz);have HB04:=kH (oF.out.trans (oz.mono oF.out.size));have MB:=kH (gM.out.below oz gM.out.lt);clear hr3 aaR hf5 hb4 oz;go_wp2_with fail
 rename_i K hK
 generalize jk:w4.alloc (.cells #[.func (Fn.func fn5) #[] cap5] 99)=w5
 have hb5:Below w4.heap.size w4 w5:=by rw[<- jk];exact ag _ _
 have hk5:ai w5 w4.heap.size 99 #[.func (Fn.func fn5) #[] cap5]:=by rw[<- jk];exact ai.new w4 _ _
 have hkd:KC w5 w5.drew:=fun _ _ _ _ _=>rfl
 have Wz:=(KC.of_below hb5).trans hkd;have Wj:w4.heap.size<=w5.drew.heap.size:=hb5.size;refine I9 (dD Tryz.f141 4) (by kernel_rfl) (p8 w w.heap.size w4.heap.size (.func (Fn.func fn2) #[] cap2) (.func (Fn.func fn4) #[] cap4) (.func (Fn.func fn5) #[] cap5)) (by kernel_rfl) (acyc_of sh_acyc) ?_ ?_ ?_
 ·have hno:∀i,(Array.replicate (dD Tryz.f141 4).toArray.size false).getD i false≠true:=by
   intro i h;simp[Array.getD_eq_getD_getElem?,Array.getElem?_replicate]at h;split at h<;>simp at h
  exact⟨rfl,rfl,rfl,rfl,rfl,rfl,Wz.blk MB.out,HF24.out.kc Wz Wj,HF44.out.kc Wz Wj,hk5.drew,HF5.out.kc Wz Wj,fun i o t _ _ hl=>absurd hl (hno i),fun hl=>absurd hl (hno 0),fun i _ hl=>absurd hl (hno i),(HB04.out.trans (hb5.mono HB04.out.size)).drew,rfl⟩
 ·intro listed a w' i hs hI hi
  obtain⟨-,o,ho,-⟩:=mem_ready.1 hi;have hlt:=(abH.1 ho).1
  have hlt2:i<138:=by
   have:=Nu;simp only[List.size_toArray]at hlt;omega
  exact op_all i hlt2 _ _ _ _ _ _ listed a w' _ hs hI hi
 ·intro listed a w' hs hall hI
  have hsz:(dD Tryz.f141 4).toArray.size=138:=by simp only[List.size_toArray];exact Nu
  have Eg:∀i,i<138->listed.getD i false=true:=by
   intro i hi;have h1:=hall i (by omega);have h2:i<listed.size:=by omega
   simp[h2]at h1⊢;exact h1
  obtain⟨r,m,h1,h2,h3,h4,h5,h6,h7⟩:=hI.oo (Eg 0 (by omega));have hr0:=h7 (Eg 137 (by omega));have iO:=kH Eg;have HI:=kH hI
  have HM:Hid (Ke w' r):=kH ⟨m,h3,h4,fun k hk=>by
   obtain⟨i,hi1,hi2⟩:=ins_of hk
   exact h5 i k hi2 (Eg i hi1)⟩
  clear hall Eg h1 h2 h3 h4 h5 h6 h7 hI;refine hK a w' ?_;go_wp2_with fail
  refine bodyPost_ret (v:=.map (some r)) ?_ HI.out.defers ?_
  ·simp[results,Tryz.results141,go_sem,hr0]
  ·exact⟨r,rfl,HM.out,HI.out.below⟩
section
variable {P:Program}{t:TypeId}{ps rs:Array TypeId}{vr:Bool}
theorem BR(w:World)(d:Nat)(h:P.underlying t=some (.func ps rs vr)):(Op.equalIn (d+1) t Value.nilFunc Value.nilFunc).run P w= .ok true w:=by
 simp[Op.equalIn,run_underlying h]
theorem AX(f:Go.Fn)(cap:Array Value)(w:World)(d:Nat)(h:P.underlying t=some (.func ps rs vr)):(Op.equalIn (d+1) t (.func f #[] cap) Value.nilFunc).run P w= .ok false w:=by
 simp[Op.equalIn,run_underlying h]
theorem Td(w:World)(h:P.underlying t=some (.func ps rs vr)):(binOp BinOp.eql t Value.nilFunc Value.nilFunc).run P w= .ok (.bool true) w:=by
 simp only[binOp];simp[Op.equal,Op.maxDepth,BR w 9999 h]
theorem RD(f:Go.Fn)(cap:Array Value)(w:World)(h:P.underlying t=some (.func ps rs vr)):(binOp BinOp.eql t (.func f #[] cap) Value.nilFunc).run P w= .ok (.bool false) w:=by
 simp only[binOp];simp[Op.equal,Op.maxDepth,AX f cap w 9999 h]
theorem S9(w:World)(h:P.underlying t=some (.func ps rs vr)):(binOp BinOp.neq t Value.nilFunc Value.nilFunc).run P w= .ok (.bool false) w:=by
 simp only[binOp];simp[Op.equal,Op.maxDepth,BR w 9999 h]
theorem Qz(f:Go.Fn)(cap:Array Value)(w:World)(h:P.underlying t=some (.func ps rs vr)):(binOp BinOp.neq t (.func f #[] cap) Value.nilFunc).run P w= .ok (.bool true) w:=by
 simp only[binOp];simp[Op.equal,Op.maxDepth,AX f cap w 9999 h]
end
def ko(sh:xJ)(i:Nat)(t:ae):Bool:=
 match sh.list with
 | some p=>p t.kind
 | none=>match sh.kids[i]? with|some p=>p t.kind|none=>false
def df(sh:xJ):Nat->List ae->Bool
 | _,[]=>true
 | i,t::ts=>ko sh i t&&df sh (i+1) ts
def qB(sh:xJ)(n:Nat):Bool:=
 match sh.list with
 | none=>decide (n=sh.kids.length)
 | some _=>decide (sh.most<=(n:Int))
def nY(sh:xJ)(t:ae):Bool:=sh.text t.text&&qB sh t.kids.length&&df sh 0 t.kids
theorem YY(sh:xJ)(v:Value)(t:ae)(A:Option Addr)(c:Nat)(w:World)(B:Nat)(hB:B<=w.heap.size)(hv:ql w v sh)(hk:aK w B A 0 t.kids)(hn:t.kids.length<=1000000000000)(hl:sh.list=none)(hsk:sh.kids.length<=10):
 Calls Tryz.prog 143 #[v,bD t A c] w fun e w'=>e= .returned (.bool (nY sh t))/\Below w.heap.size w w':=by
 obtain⟨tv,Ak,ck,lv,rfl,htext,hrow,hlist⟩:=hv;obtain⟨ft,ct,e1,hent,hcall⟩:=htext;subst e1;rw[hl]at hlist;have hlv:lv= .nilFunc:=hlist;subst hlv;have hres:nY sh t=(sh.text t.text&&decide (t.kids.length=sh.kids.length)&&df sh 0 t.kids):=by unfold nY qB;rw[hl]
 rw[hres];unfold bD;unfold Sy at hent;obtain⟨kids,nH⟩:∃x,t.kids=x:=⟨_,rfl⟩
 obtain⟨n,hnn⟩:∃x,kids.length=x:=⟨_,rfl⟩
 obtain⟨m,hmm⟩:∃x,sh.kids.length=x:=⟨_,rfl⟩
 rw[nH]at hk hn⊢;rw[hnn]at hn⊢;rw[hmm]at hsk⊢;obtain⟨kd,hk0⟩:∃x,t.kind=x:=⟨_,rfl⟩
 obtain⟨x,hx0⟩:∃x,t.text=x:=⟨_,rfl⟩
 obtain⟨a,ha0⟩:∃x,t.at_=x:=⟨_,rfl⟩
 obtain⟨z,hz0⟩:∃x,t.end_=x:=⟨_,rfl⟩
 obtain⟨mo,hmo⟩:∃x,sh.most=x:=⟨_,rfl⟩
 obtain⟨bt,hbt⟩:∃b,sh.text x=b:=⟨_,rfl⟩
 rw[hk0,hx0,ha0,hz0,hmo,hbt];have jo:=kH hcall;have HBT:=kH hbt;have Kk:=kH hrow;have HK:=kH hk;have HN:=kH hnn;have Si:=kH hmm;have HL:=kH hl;have HB:=kH hB;clear hcall hbt hrow hk hnn hmm hl hres nH hk0 hx0 ha0 hz0 hmo hlist hB;have hnn1:∀w':World,(binOp BinOp.eql 54 .nilFunc .nilFunc).run Tryz.prog w'= .ok (.bool true) w':=fun w'=>Td w' Tryz.underlying54
 have hnn2:∀w':World,(binOp BinOp.neq 54 .nilFunc .nilFunc).run Tryz.prog w'= .ok (.bool false) w':=fun w'=>S9 w' Tryz.underlying54
 go_enter Tryz.func143,Tryz.ntmps143
 go_wp2_with fail
 generalize hW1:w.alloc (.cells #[.func (Fn.func ft) #[] ct,.slice Ak m ck,.nilFunc,.int .i64 mo] 197)=W1
 have hb1:Below w.heap.size w W1:=by rw[<- hW1];exact ag _ _
 have hS1:ai W1 w.heap.size 197 #[.func (Fn.func ft) #[] ct,.slice Ak m ck,.nilFunc,.int .i64 mo]:=by rw[<- hW1];exact ai.new w _ _
 have hs1:W1.heap.size=w.heap.size+1:=by rw[<- hW1];simp
 rw[<- hs1];generalize hW2:W1.alloc (.cells #[.int .i64 kd,.string x,.int .i64 a,.int .i64 z,.slice A n c] 24)=w2
 have hb2:Below W1.heap.size W1 w2:=by rw[<- hW2];exact ag _ _
 have vV:ai w2 W1.heap.size 24 #[.int .i64 kd,.string x,.int .i64 a,.int .i64 z,.slice A n c]:=by rw[<- hW2];exact ai.new W1 _ _
 have hS2:=hS1.below hb2 hS1.lt;have lH:=hb1.trans (hb2.mono hb1.size);have hcl:=jo.out x w2 (KC.of_below lH) lH.size;rw[HBT.out]at hcl;have ZF:=kH hcl;have GH:=kH lH;have hs1b:w.heap.size<W1.heap.size:=by omega
 clear hW1 hW2 hb1 hS1 hs1 hb2 lH hcl;refine ZF.out.mono ?_;rintro e w3 ⟨rfl,hb3⟩;have tL:=hS2.below hb3 hS2.lt;have ui:=vV.below hb3 vV.lt;have Rx:=GH.out.trans (hb3.mono GH.out.size);have p0:=tL.cell 0;have p1:=tL.cell 1;have p2:=tL.cell 2;have p3:=tL.cell 3;have q4:=ui.cell 4;have hlS:=tL.lt;have hlN:=ui.lt;have iQ:=kH tL;have jH:=kH ui;have oF:=kH Rx;clear tL ui Rx hS2 vV hb3;cases bt
 ·go_wp2_with fail
  go_ret
  exact⟨bH (by simp),oF.out⟩
 by_cases hnm:n=m
 case neg=>
  have hne:((n:Int) !=(m:Int))=true:=by simp;omega
  have qP:=kH hnm;clear hnm;go_wp2_with fail
  go_ret
  exact⟨bH (by rw[decide_eq_false qP.out];simp),oF.out⟩
 subst hnm;have hne:((n:Int) !=(n:Int))=false:=by simp
 go_wp2_with fail
 go_loopg [44] n (fun gk s44 wr=> ∃k:Nat,k+gk=n/\s44= .int .i64 (k:Int)/\df sh 0 kids=df sh k (kids.drop k)/\Below w3.heap.size w3 wr)
 case atStart=>exact⟨0,by omega,rfl,rfl,Below.refl _ _⟩
 case round=>
  obtain⟨k,hk,rfl,hfit,hbr⟩:=hrel;have Ko:=kH hfit;have nT:=kH hbr;have hz3:=hbr.size;have hSr:=iQ.out.below hbr hlS;have p1:wr.cell? ⟨w.heap.size,1,none⟩=some (.slice Ak n ck):=hSr.cell 1;have p2:wr.cell? ⟨w.heap.size,2,none⟩=some .nilFunc:=hSr.cell 2;have hlSr:=hSr.lt;have HI:=kH hk;have hkn:k<=n:=by omega
  clear hfit hbr hSr hk;by_cases hlt:k<n
  ·have hlt':(k:Int)<(n:Int):=by omega
   obtain⟨u,hu⟩:∃u,kids[k]? =some u:=⟨_,abI (by rw[HN.out];exact hlt)⟩
   obtain⟨vals,⟨b,off,hA,hbl,hcs⟩,hT⟩:=HK.out.get k u hu;obtain⟨A',c',lQ,-⟩:=hT.five;subst hA;subst lQ;have hbw:b<w.heap.size:=by have:=HB.out;omega
   have Ee:b<w3.heap.size:=by omega
   have hbb:b<wr.heap.size:=by omega
   have tr:∀o v',w.cell? ⟨b,o,none⟩=some v'->wr.cell? ⟨b,o,none⟩=some v':=fun o v' h=>(nT.out.cell (p:=⟨b,o,none⟩) Ee).trans ((oF.out.cell (p:=⟨b,o,none⟩) hbw).trans h)
   have t0:wr.cell? ⟨b,off+k*5,none⟩=some (.int .i64 u.kind):=tr _ _ (by simpa using hcs 0 _ rfl);have t1:wr.cell? ⟨b,off+k*5+1,none⟩=some (.string u.text):=tr _ _ (by simpa using hcs 1 _ rfl);have t2:wr.cell? ⟨b,off+k*5+2,none⟩=some (.int .i64 u.at_):=tr _ _ (by simpa using hcs 2 _ rfl);have t3:wr.cell? ⟨b,off+k*5+3,none⟩=some (.int .i64 u.end_):=tr _ _ (by simpa using hcs 3 _ rfl);have t4:wr.cell? ⟨b,off+k*5+4,none⟩=some (.slice A' u.kids.length c'):=tr _ _ (by simpa using hcs 4 _ rfl);obtain⟨p,hp⟩:∃p,sh.kids[k]? =some p:=⟨_,abI (by rw[Si.out];exact hlt)⟩
   obtain⟨b',off',v',hAk,hcv,oG⟩:=Kk.out k p hp;obtain⟨fn,cap,e1,hent2,yN⟩:=oG;subst e1;subst hAk;have JM:KC w wr:=(KC.of_below oF.out).trans (KC.of_below nT.out);have NL:w.heap.size<=wr.heap.size:=by have:=oF.out.size;omega
   have hv:wr.cell? ⟨b',off'+k,none⟩=some (.func (Fn.func fn) #[] cap):=JM.cell hcv;have hbb':b'<wr.heap.size:=JM.lt hcv;have LD:=ag wr (.cells #[.int .i64 u.kind,.string u.text,.int .i64 u.at_,.int .i64 u.end_,.slice A' u.kids.length c'] 24);have JO:=yN u.kind _ (JM.trans (KC.of_below LD)) (abF NL LD.size)
   have hstep:df sh k (kids.drop k)=(p u.kind&&df sh (k+1) (kids.drop (k+1))):=by
    have hd:kids.drop k=u::kids.drop (k+1):=by
     have hl2:k<kids.length:=by rw[HN.out];exact hlt
     rw[List.drop_eq_getElem_cons hl2];rw[abI hl2]at hu;injection hu with hu
     rw[hu]
    rw[hd];simp only[df,ko];rw[HL.out,hp]
   obtain⟨bk,hbk⟩:∃q,p u.kind=q:=⟨_,rfl⟩
   rw[hbk]at JO hstep;have Sw:=kH JO;have BU:=kH hstep;have I7:=kH LD;unfold Sy at hent2;have hwr:IntKind.i64.wrap ((k:Int)+1)=(k:Int)+1:=IntWalk.i64_in _ (by omega);obtain⟨un,hun⟩:∃q,u.kids.length=q:=⟨_,rfl⟩
   rw[hun]at t4 Sw I7;clear hcs hT tr yN JO hstep LD JM hcv hu hp hbk hun NL;go_wp2_with fail
   refine Sw.out.mono ?_;rintro e w5 ⟨rfl,hb5⟩;have jb:=kH (nT.out.trans ((I7.out.trans (hb5.mono I7.out.size)).mono nT.out.size));clear hb5;cases bk
   ·go_wp2_with fail
    go_ret
    have hend:df sh 0 kids=false:=by rw[Ko.out,BU.out];simp
    exact⟨bH (by simp[hend]),oF.out.trans (jb.out.mono oF.out.size)⟩
   ·go_wp2_with fail
    go_roundg (gk - 1)
    case measure=>have:=HI.out;omega
    case rel=>exact⟨k+1,by have:=HI.out;omega,by simp,by rw[Ko.out,BU.out];simp,jb.out⟩
  ·have hke:k=n:=by omega
   have hres:df sh 0 kids=true:=by rw[Ko.out,hke,<- HN.out,List.drop_length];rfl
   have aM:=kH hres;clear hres;go_wp2_with fail
   go_ret
   exact⟨bH (by simp[aM.out]),oF.out.trans (nT.out.mono oF.out.size)⟩
theorem YZ(sh:xJ)(v:Value)(t:ae)(A:Option Addr)(c:Nat)(w:World)(B:Nat)(hB:B<=w.heap.size)(hv:ql w v sh)(hk:aK w B A 0 t.kids)(hn:t.kids.length<=1000000000000)(p:Int->Bool)(hl:sh.list=some p):
 Calls Tryz.prog 143 #[v,bD t A c] w fun e w'=>e= .returned (.bool (nY sh t))/\Below w.heap.size w w':=by
 obtain⟨tv,Ak,ck,lv,rfl,htext,hrow,hlist⟩:=hv;obtain⟨ft,ct,e1,hent,hcall⟩:=htext;subst e1;rw[hl]at hlist;obtain⟨fl,cl,e1,hentl,YF⟩:=(show jm w lv p from hlist)
 subst e1;have hres:nY sh t=(sh.text t.text&&decide (sh.most<=(t.kids.length:Int))&&df sh 0 t.kids):=by unfold nY qB;rw[hl]
 rw[hres];unfold bD;unfold Sy at hent hentl;obtain⟨kids,nH⟩:∃x,t.kids=x:=⟨_,rfl⟩
 obtain⟨n,hnn⟩:∃x,kids.length=x:=⟨_,rfl⟩
 obtain⟨m,hmm⟩:∃x,sh.kids.length=x:=⟨_,rfl⟩
 rw[nH]at hk hn⊢;rw[hnn]at hn⊢;rw[hmm];obtain⟨kd,hk0⟩:∃x,t.kind=x:=⟨_,rfl⟩
 obtain⟨x,hx0⟩:∃x,t.text=x:=⟨_,rfl⟩
 obtain⟨a,ha0⟩:∃x,t.at_=x:=⟨_,rfl⟩
 obtain⟨z,hz0⟩:∃x,t.end_=x:=⟨_,rfl⟩
 obtain⟨mo,hmo⟩:∃x,sh.most=x:=⟨_,rfl⟩
 have HCALLL:=kH YF;obtain⟨bt,hbt⟩:∃b,sh.text x=b:=⟨_,rfl⟩
 rw[hk0,hx0,ha0,hz0,hmo,hbt];have jo:=kH hcall;have HBT:=kH hbt;have HK:=kH hk;have HN:=kH hnn;have HL:=kH hl;have HB:=kH hB;clear hcall YF hbt hrow hk hnn hmm hl hres nH hk0 hx0 ha0 hz0 hmo hlist hB;have hnn1:∀w':World,(binOp BinOp.eql 54 (.func (Fn.func fl) #[] cl) .nilFunc).run Tryz.prog w'= .ok (.bool false) w':=fun w'=>RD _ _ w' Tryz.underlying54
 have hnn2:∀w':World,(binOp BinOp.neq 54 (.func (Fn.func fl) #[] cl) .nilFunc).run Tryz.prog w'= .ok (.bool true) w':=fun w'=>Qz _ _ w' Tryz.underlying54
 go_enter Tryz.func143,Tryz.ntmps143
 go_wp2_with fail
 generalize hW1:w.alloc (.cells #[.func (Fn.func ft) #[] ct,.slice Ak m ck,.func (Fn.func fl) #[] cl,.int .i64 mo] 197)=W1
 have hb1:Below w.heap.size w W1:=by rw[<- hW1];exact ag _ _
 have hS1:ai W1 w.heap.size 197 #[.func (Fn.func ft) #[] ct,.slice Ak m ck,.func (Fn.func fl) #[] cl,.int .i64 mo]:=by rw[<- hW1];exact ai.new w _ _
 have hs1:W1.heap.size=w.heap.size+1:=by rw[<- hW1];simp
 rw[<- hs1];generalize hW2:W1.alloc (.cells #[.int .i64 kd,.string x,.int .i64 a,.int .i64 z,.slice A n c] 24)=w2
 have hb2:Below W1.heap.size W1 w2:=by rw[<- hW2];exact ag _ _
 have vV:ai w2 W1.heap.size 24 #[.int .i64 kd,.string x,.int .i64 a,.int .i64 z,.slice A n c]:=by rw[<- hW2];exact ai.new W1 _ _
 have hS2:=hS1.below hb2 hS1.lt;have lH:=hb1.trans (hb2.mono hb1.size);have hcl:=jo.out x w2 (KC.of_below lH) lH.size;rw[HBT.out]at hcl;have ZF:=kH hcl;have GH:=kH lH;have hs1b:w.heap.size<W1.heap.size:=by omega
 clear hW1 hW2 hb1 hS1 hs1 hb2 lH hcl;refine ZF.out.mono ?_;rintro e w3 ⟨rfl,hb3⟩;have tL:=hS2.below hb3 hS2.lt;have ui:=vV.below hb3 vV.lt;have Rx:=GH.out.trans (hb3.mono GH.out.size);have p0:=tL.cell 0;have p1:=tL.cell 1;have p2:=tL.cell 2;have p3:=tL.cell 3;have q4:=ui.cell 4;have hlS:=tL.lt;have hlN:=ui.lt;have iQ:=kH tL;have jH:=kH ui;have oF:=kH Rx;clear tL ui Rx hS2 vV hb3;cases bt
 ·go_wp2_with fail
  go_ret
  exact⟨bH (by simp),oF.out⟩
 by_cases hnm:mo<=(n:Int)
 case neg=>
  have hne:decide ((n:Int)<mo)=true:=decide_eq_true (by omega);have qP:=kH hnm;clear hnm;go_wp2_with fail
  go_ret
  exact⟨bH (by have h:=qP.out;rw[decide_eq_false (p:=mo<=(n:Int)) (by omega)];simp),oF.out⟩
 have hne:decide ((n:Int)<mo)=false:=decide_eq_false (by omega);have qP:=kH hnm;clear hnm;go_wp2_with fail
 go_loopg [44] n (fun gk s44 wr=> ∃k:Nat,k+gk=n/\s44= .int .i64 (k:Int)/\df sh 0 kids=df sh k (kids.drop k)/\Below w3.heap.size w3 wr)
 case atStart=>exact⟨0,by omega,rfl,rfl,Below.refl _ _⟩
 case round=>
  obtain⟨k,hk,rfl,hfit,hbr⟩:=hrel;have Ko:=kH hfit;have nT:=kH hbr;have hz3:=hbr.size;have hSr:=iQ.out.below hbr hlS;have p1:wr.cell? ⟨w.heap.size,1,none⟩=some (.slice Ak m ck):=hSr.cell 1;have p2:wr.cell? ⟨w.heap.size,2,none⟩=some (.func (Fn.func fl) #[] cl):=hSr.cell 2;have hlSr:=hSr.lt;have HI:=kH hk;have hkn:k<=n:=by omega
  clear hfit hbr hSr hk;by_cases hlt:k<n
  ·have hlt':(k:Int)<(n:Int):=by omega
   obtain⟨u,hu⟩:∃u,kids[k]? =some u:=⟨_,abI (by rw[HN.out];exact hlt)⟩
   obtain⟨vals,⟨b,off,hA,hbl,hcs⟩,hT⟩:=HK.out.get k u hu;obtain⟨A',c',lQ,-⟩:=hT.five;subst hA;subst lQ;have hbw:b<w.heap.size:=by have:=HB.out;omega
   have Ee:b<w3.heap.size:=by omega
   have hbb:b<wr.heap.size:=by omega
   have tr:∀o v',w.cell? ⟨b,o,none⟩=some v'->wr.cell? ⟨b,o,none⟩=some v':=fun o v' h=>(nT.out.cell (p:=⟨b,o,none⟩) Ee).trans ((oF.out.cell (p:=⟨b,o,none⟩) hbw).trans h)
   have t0:wr.cell? ⟨b,off+k*5,none⟩=some (.int .i64 u.kind):=tr _ _ (by simpa using hcs 0 _ rfl);have t1:wr.cell? ⟨b,off+k*5+1,none⟩=some (.string u.text):=tr _ _ (by simpa using hcs 1 _ rfl);have t2:wr.cell? ⟨b,off+k*5+2,none⟩=some (.int .i64 u.at_):=tr _ _ (by simpa using hcs 2 _ rfl);have t3:wr.cell? ⟨b,off+k*5+3,none⟩=some (.int .i64 u.end_):=tr _ _ (by simpa using hcs 3 _ rfl);have t4:wr.cell? ⟨b,off+k*5+4,none⟩=some (.slice A' u.kids.length c'):=tr _ _ (by simpa using hcs 4 _ rfl);have JM:KC w wr:=(KC.of_below oF.out).trans (KC.of_below nT.out);have NL:w.heap.size<=wr.heap.size:=by have:=oF.out.size;omega
   have LD:=ag wr (.cells #[.int .i64 u.kind,.string u.text,.int .i64 u.at_,.int .i64 u.end_,.slice A' u.kids.length c'] 24);have JO:=HCALLL.out u.kind _ (JM.trans (KC.of_below LD)) (abF NL LD.size)
   have hstep:df sh k (kids.drop k)=(p u.kind&&df sh (k+1) (kids.drop (k+1))):=by
    have hd:kids.drop k=u::kids.drop (k+1):=by
     have hl2:k<kids.length:=by rw[HN.out];exact hlt
     rw[List.drop_eq_getElem_cons hl2];rw[abI hl2]at hu;injection hu with hu
     rw[hu]
    rw[hd];simp only[df,ko];rw[HL.out]
   obtain⟨bk,hbk⟩:∃q,p u.kind=q:=⟨_,rfl⟩
   rw[hbk]at JO hstep;have Sw:=kH JO;have BU:=kH hstep;have I7:=kH LD;have hwr:IntKind.i64.wrap ((k:Int)+1)=(k:Int)+1:=IntWalk.i64_in _ (by omega);obtain⟨un,hun⟩:∃q,u.kids.length=q:=⟨_,rfl⟩
   rw[hun]at t4 Sw I7;clear hcs hT tr JO hstep LD JM hu hbk hun NL;go_wp2_with fail
   refine Sw.out.mono ?_;rintro e w5 ⟨rfl,hb5⟩;have jb:=kH (nT.out.trans ((I7.out.trans (hb5.mono I7.out.size)).mono nT.out.size));clear hb5;cases bk
   ·go_wp2_with fail
    go_ret
    have hend:df sh 0 kids=false:=by rw[Ko.out,BU.out];simp
    exact⟨bH (by simp[hend]),oF.out.trans (jb.out.mono oF.out.size)⟩
   ·go_wp2_with fail
    go_roundg (gk - 1)
    case measure=>have:=HI.out;omega
    case rel=>exact⟨k+1,by have:=HI.out;omega,by simp,by rw[Ko.out,BU.out];simp,jb.out⟩
  ·have hke:k=n:=by omega
   have hres:df sh 0 kids=true:=by rw[Ko.out,hke,<- HN.out,List.drop_length];rfl
   have aM:=kH hres;clear hres;go_wp2_with fail
   go_ret
   exact⟨bH (by have h:=qP.out;rw[decide_eq_true (p:=mo<=(n:Int)) (by omega),aM.out];simp),oF.out.trans (nT.out.mono oF.out.size)⟩
theorem aa7(sh:xJ)(v:Value)(t:ae)(A:Option Addr)(c:Nat)(w:World)(B:Nat)(hB:B<=w.heap.size)(hv:ql w v sh)(hk:aK w B A 0 t.kids)(hn:t.kids.length<=1000000000000)(hsk:sh.kids.length<=10):
 Calls Tryz.prog 143 #[v,bD t A c] w fun e w'=>e= .returned (.bool (nY sh t))/\Below w.heap.size w w':=by
 cases hl:sh.list with
 | none=>exact YY sh v t A c w B hB hv hk hn hl hsk
 | some p=>exact YZ sh v t A c w B hB hv hk hn p hl
end Go.Proofs.YtoepemlnlpamlaaGreat
