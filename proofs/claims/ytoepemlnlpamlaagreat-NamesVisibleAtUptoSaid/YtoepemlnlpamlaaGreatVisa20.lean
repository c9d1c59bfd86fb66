/- The law NamesVisibleAt holds where what it reads is of bulk at most 1048576: it returns true, and its arguments read as before. Part 20: Shp8 Fits. -/
import Derived.Laws.EntriesVeiled
import Derived.Test.YtoepemlnlpamlaaGreatVisa17
import Derived.Test.YtoepemlnlpamlaaGreatVisa19
set_option maxRecDepth 100000
set_option maxHeartbeats 4000000
namespace Go.Proofs.YtoepemlnlpamlaaGreat
open Go.RowKit
theorem op_136:jQ 136:=by
 intro n Y Z y x q B a w Q W A U;obtain⟨o,I,E,J,T⟩:=mP so_136;have K:B.getD 0 false=true:=AO U (by kernel_rfl);have V:136<B.size:=by have:=(aae.1 I).1;omega
 obtain⟨r,m,L,M,N,O,R,z,S⟩:=A.oP K
 have C:∀u,u≠118->(a.put o.dst (.map (some r))).tmps[u]? =a.tmps[u]? :=fun u X=>by
  rw[E];show(a.tmps.setIfInBounds 118 _)[u]? =_;rw[Array.getElem?_setIfInBounds_ne (Ne.symm X)]
 refine AV (o:=o) I T ?_;unfold Oper.wp
 have F:(execOp a.eval o).run Tryz.prog w= .ok (.value (.map (some r))) w:=by
  simp only[execOp,J];go_simp
 rw[F,Oper.upon_value];refine⟨?_,(C 1 (by omega)).trans A.t1,(C 2 (by omega)).trans A.t2,(C 3 (by omega)).trans A.t3,(C 4 (by omega)).trans A.t4,(C 5 (by omega)).trans A.t5,A.k1,A.k2,A.k4,A.k5,A.q5,?_,?_,?_,A.below,?_⟩
 ·rw[E]
  show(a.tmps.setIfInBounds 118 _).size=119;simpa using A.size
 ·exact A.tmp.put W (fun t v h=>h) (Mv LV) I E (by rw[A.size];omega) trivial
 ·intro _
  refine⟨r,m,(C 11 (by omega)).trans L,M,N,O,fun j k G D=>?_,fun _=>?_,fun D=>?_⟩
  ·have H:j≠136:=by rintro rfl;cases G
   rw[eX H]at D;exact R j k G D
  ·rw[E]
   show(a.tmps.setIfInBounds 118 _)[118]? =_;simp[A.size]
  ·rw[eX (by omega)]at D
   exact(C 0 (by omega)).trans (S D)
 ·intro j G D
  rw[eX (by omega)];exact K
 ·rw[E]
  exact A.defers
theorem op_137:jQ 137:=by
 intro l Z z x q n B a w Q X A W;obtain⟨o,N,F,J,V⟩:=mP so_137;have C:B.getD 136 false=true:=AO W (by kernel_rfl);have K:B.getD 0 false=true:=A.ord 136 (.inr (.inl rfl)) C;obtain⟨r,m,O,R,S,T,U,M,y⟩:=A.oP K;have L:=M C
 have D:∀u,u≠0->(a.put o.dst (.map (some r))).tmps[u]? =a.tmps[u]? :=fun u Y=>by
  rw[F];show(a.tmps.setIfInBounds 0 _)[u]? =_;rw[Array.getElem?_setIfInBounds_ne (Ne.symm Y)]
 refine AV (o:=o) N V ?_;unfold Oper.wp
 have G:(execOp a.eval o).run Tryz.prog w= .ok (.value (.map (some r))) w:=by
  simp only[execOp,J];go_simp
 rw[G,Oper.upon_value];refine⟨?_,(D 1 (by omega)).trans A.t1,(D 2 (by omega)).trans A.t2,(D 3 (by omega)).trans A.t3,(D 4 (by omega)).trans A.t4,(D 5 (by omega)).trans A.t5,A.k1,A.k2,A.k4,A.k5,A.q5,?_,?_,?_,A.below,?_⟩
 ·rw[F]
  show(a.tmps.setIfInBounds 0 _).size=119;simpa using A.size
 ·exact A.tmp.put X (fun t v h=>h) (Mv LV) N F (by rw[A.size];omega) trivial
 ·intro _
  refine⟨r,m,(D 11 (by omega)).trans O,R,S,T,fun j k H E=>?_,fun E=>?_,fun _=>?_⟩
  ·have I:j≠137:=by rintro rfl;cases H
   rw[eX I]at E;exact U j k H E
  ·rw[eX (by omega)]at E
   exact(D 118 (by omega)).trans (M E)
  ·rw[F]
   show(a.tmps.setIfInBounds 0 _)[0]? =_;simp[A.size]
 ·intro j H E
  rw[eX (by omega)];exact K
 ·rw[F]
  exact A.defers
theorem op_all:∀i,i<138->jQ i
 | 0,_=>op_0 so_0
 | 1,_=>kB 12 TX.e
 | 2,_=>kN 0 12
 | 3,_=>kI2 13 3 5
 | 4,_=>kO 14 13 _
 | 5,_=>Zz 15 TX.e (KP.t 14 _)
 | 6,_=>kN 2 15
 | 7,_=>kL 16
 | 8,_=>U9 17 4
 | 9,_=>kO 18 17 _
 | 10,_=>kBm 19 (TX.t 16 _) (KP.t 18 _)
 | 11,_=>kN 3 19
 | 12,_=>kL 20
 | 13,_=>U9 21 9
 | 14,_=>kO 22 21 _
 | 15,_=>OM 23 (KP.t 22 _)
 | 16,_=>zW 24 (TX.t 20 _) 23 _
 | 17,_=>kN 4 24
 | 18,_=>kL 25
 | 19,_=>U9 26 6
 | 20,_=>kO 27 26 _
 | 21,_=>kM4 28
 | 22,_=>kM2 29
 | 23,_=>kF3 30 (KP.t 27 _) (KP.t 28 _) (KP.t 29 _)
 | 24,_=>zW 31 (TX.t 25 _) 30 _
 | 25,_=>kN 5 31
 | 26,_=>kI2 32 7 8
 | 27,_=>kO 33 32 _
 | 28,_=>Zz 34 TX.e (KP.t 33 _)
 | 29,_=>kN 6 34
 | 30,_=>kL 35
 | 31,_=>kM4 36
 | 32,_=>OM 37 (KP.t 36 _)
 | 33,_=>zW 38 (TX.t 35 _) 37 _
 | 34,_=>kN 7 38
 | 35,_=>kL 39
 | 36,_=>kM4 40
 | 37,_=>OM 41 (KP.t 40 _)
 | 38,_=>zW 42 (TX.t 39 _) 41 _
 | 39,_=>kN 8 42
 | 40,_=>op_40
 | 41,_=>kB 44 (TX.t 43 _)
 | 42,_=>kN 9 44
 | 43,_=>kB 45 TX.n
 | 44,_=>kN 10 45
 | 45,_=>Zz 46 TX.e KP.s
 | 46,_=>kN 11 46
 | 47,_=>kL 47
 | 48,_=>kM4 48
 | 49,_=>BC 49
 | 50,_=>Zy 50 (KP.t 48 _) (KP.t 49 _)
 | 51,_=>zW 51 (TX.t 47 _) 50 _
 | 52,_=>kN 12 51
 | 53,_=>BC 52
 | 54,_=>Zy 53 KP.p (KP.t 52 _)
 | 55,_=>zW 54 TX.e 53 _
 | 56,_=>kN 13 54
 | 57,_=>BC 55
 | 58,_=>kM2 56
 | 59,_=>kI2 57 11 14
 | 60,_=>kO 58 57 _
 | 61,_=>kQ 59 58 _
 | 62,_=>kF3 60 (KP.t 55 _) (KP.t 56 _) (KP.t 59 _)
 | 63,_=>zW 61 TX.e 60 _
 | 64,_=>kN 14 61
 | 65,_=>BC 62
 | 66,_=>kM2 63
 | 67,_=>Zy 64 (KP.t 62 _) (KP.t 63 _)
 | 68,_=>zW 65 TX.e 64 _
 | 69,_=>kN 15 65
 | 70,_=>kL 66
 | 71,_=>BC 67
 | 72,_=>BC 68
 | 73,_=>kM2 69
 | 74,_=>kF3 70 (KP.t 67 _) (KP.t 68 _) (KP.t 69 _)
 | 75,_=>zW 71 (TX.t 66 _) 70 _
 | 76,_=>kN 16 71
 | 77,_=>BC 72
 | 78,_=>kQ 73 72 _
 | 79,_=>OM 74 (KP.t 73 _)
 | 80,_=>zW 75 TX.e 74 _
 | 81,_=>kN 17 75
 | 82,_=>BC 76
 | 83,_=>OM 77 (KP.t 76 _)
 | 84,_=>zW 78 TX.e 77 _
 | 85,_=>kN 18 78
 | 86,_=>kL 79
 | 87,_=>BC 80
 | 88,_=>Zz 81 (TX.t 79 _) (KP.t 80 _)
 | 89,_=>kN 19 81
 | 90,_=>kL 82
 | 91,_=>kB 83 (TX.t 82 _)
 | 92,_=>kN 20 83
 | 93,_=>U9 84 20
 | 94,_=>kO 85 84 _
 | 95,_=>BC 86
 | 96,_=>Zy 87 (KP.t 85 _) (KP.t 86 _)
 | 97,_=>zW 88 TX.e 87 _
 | 98,_=>kN 21 88
 | 99,_=>kL 89
 | 100,_=>U9 90 20
 | 101,_=>kO 91 90 _
 | 102,_=>OM 92 (KP.t 91 _)
 | 103,_=>zW 93 (TX.t 89 _) 92 _
 | 104,_=>kN 22 93
 | 105,_=>U9 94 20
 | 106,_=>kO 95 94 _
 | 107,_=>OM 96 (KP.t 95 _)
 | 108,_=>zW 97 TX.e 96 _
 | 109,_=>kN 23 97
 | 110,_=>kB 98 TX.n
 | 111,_=>kN 24 98
 | 112,_=>kS2 99 ⟨#[116,114,117,101]⟩ ⟨#[102,97,108,115,101]⟩
 | 113,_=>kW 100 99 _
 | 114,_=>kB 101 (TX.t 100 _)
 | 115,_=>kN 25 101
 | 116,_=>BC 102
 | 117,_=>kBm 103 TX.e (KP.t 102 _)
 | 118,_=>kN 26 103
 | 119,_=>kL 104
 | 120,_=>BC 105
 | 121,_=>Zz 106 (TX.t 104 _) (KP.t 105 _)
 | 122,_=>kN 27 106
 | 123,_=>kS2 107 ⟨#[45]⟩ ⟨#[110,111,116]⟩
 | 124,_=>kW 108 107 _
 | 125,_=>BC 109
 | 126,_=>OM 110 (KP.t 109 _)
 | 127,_=>zW 111 (TX.t 108 _) 110 _
 | 128,_=>kN 28 111
 | 129,_=>op_129
 | 130,_=>kW 113 112 _
 | 131,_=>BC 114
 | 132,_=>BC 115
 | 133,_=>Zy 116 (KP.t 114 _) (KP.t 115 _)
 | 134,_=>zW 117 (TX.t 113 _) 116 _
 | 135,_=>kN 29 117
 | 136,_=>op_136
 | 137,_=>op_137
 | i+138,h=>absurd h (by omega)
theorem JP{P:Program}{Q:Exit->Act->World->Prop}{J:Nat}{a:Act}{w:World}{D:Array Oper}(l:List Oper)(G:D=l.toArray)(I:Array Bool->Act->World->Prop)(H:P.follows .mixedOrders=true)
 (E:∀(i:Nat) (o:Oper),l.toArray[i]? =some o->∀e∈o.after,e.on<i)
 (F:I (Array.replicate l.toArray.size false) a w.drew)
 (B:∀A a w i,A.size=l.toArray.size->I A a w->i∈Region.ready .any l.toArray A->wpOp P l.toArray (NoPanic Q) i (I (A.setIfInBounds i true)) a w)
 (C:∀A a w,A.size=l.toArray.size->(∀i,i<l.toArray.size->A.getD i true=true)->I A a w->Q .normal a w):(Code.region J D true).wp P Q a w:=by
 subst G;exact PK I H E F B C
theorem Y7(n:Nat)(h:30<=n):oh n=none:=by
 unfold oh;split<;>first|omega|rfl
def ZE:Bool:=(List.range 30).all fun n=> !(oh n).isSome || (List.range 138).any fun i=>kY i==some (n:Int)
theorem ins_chk:ZE=true:=by kernel_rfl
theorem ins_of{k:Int}(h:(mf k).isSome=true):∃i,i<138/\kY i=some k:=by
 cases k with
 | negSucc n=>cases h
 | ofNat n=>
  have C:(oh n).isSome=true:=h;by_cases F:n<30
  ·have B:=ins_chk
   unfold ZE at B;rw[List.all_eq_true]at B;have A:=B n (by simpa using F);rw[C]at A;simp only[Bool.not_true,Bool.false_or,List.any_eq_true,beq_iff_eq]at A;obtain⟨i,D,E⟩:=A;exact⟨i,by simpa using D,E⟩
  ·rw[Y7 n (by omega)]at C
   cases C
def Li(w:World)(r:Nat):Prop:=∃m,bA kX w r m/\(∀x∈m,∃sh,mf x.1=some sh/\qH w x.2 sh)/\∀k,(mf k).isSome=true->(nV m k).isSome=true
theorem WG(w:World):Calls Tryz.prog 141 #[] w fun e w'=> ∃r,e= .returned (.map (some r))/\Li w' r/\Below w.heap.size w w':=by
 go_in
 go_wp2_with fail
 generalize E:w.alloc (.cells #[.func (Fn.func 53) #[] #[]] 99)=W1
 have F:Below w.heap.size w W1:=by rw[<- E];exact ag _ _
 have R:aj W1 w.heap.size 99 #[.func (Fn.func 53) #[] #[]]:=by rw[<- E];exact aj.new w _ _
 have l:W1.heap.size=w.heap.size+1:=by rw[<- E];simp
 rw[<- l];have q:=Kz W1 3 [11];have B:=ag W1 (.cells #[.int .i64 11] 3);clear E l;refine(U2 (some ⟨W1.heap.size,0,none⟩) 1 1 [11] _ q rfl (by omega)).mono ?_;rintro e c ⟨v2,rfl,O,M⟩;have lY:Below w.heap.size w c:=(F.trans (B.mono F.size)).trans (M.mono (aac F.size B.size));have y:aj c w.heap.size 99 #[.func (Fn.func 53) #[] #[]]:=R.below ((B.trans (M.mono B.size)).mono (aab _)) R.lt;obtain⟨fn2,X,hv2⟩:=Gv O;subst hv2;have b:=kH O;have Ij:=kH lY;have JJ:=kH y;clear F R q B M O lY y;go_wp2_with fail
 refine(Fx (.func (Fn.func 192) #[] #[]) dC c (ZA c)).mono ?_;rintro e g ⟨v4,rfl,Vn,G⟩;obtain⟨fn4,Y,hv4⟩:=Gv Vn;subst hv4;have HF4:=kH Vn;have U:=kH (b.out.below G);have oZ:=kH (Ij.out.trans (G.mono Ij.out.size));have gT:=kH (JJ.out.below G JJ.out.lt);clear Vn G;go_wp2_with fail
 have n:=Cs g 9 DU;have D:=ag g (.cells #[.string ⟨#[105,110,116]⟩,.string ⟨#[98,111,111,108]⟩] 9);refine(Qt (some ⟨g.heap.size,0,none⟩) 2 2 DU _ n rfl (by omega)).mono ?_;rintro e J ⟨v5,rfl,Q,z⟩;obtain⟨L,C,hv5⟩:=Oq Q;subst hv5;have j:Below g.heap.size g J:=D.trans (z.mono D.size);have HF5:=kH Q;have V:=kH (U.out.below j);have W:=kH (HF4.out.below j);have H:=kH (oZ.out.trans (j.mono oZ.out.size));have CU:=kH (gT.out.below j gT.out.lt);clear n D Q z j;go_wp2_with fail
 rename_i K hK
 generalize jD:J.alloc (.cells #[.func (Fn.func L) #[] C] 99)=w5
 have N:Below J.heap.size J w5:=by rw[<- jD];exact ag _ _
 have hk5:aj w5 J.heap.size 99 #[.func (Fn.func L) #[] C]:=by rw[<- jD];exact aj.new J _ _
 have hkd:KC w5 w5.drew:=fun _ _ _ _ _=>rfl
 have f:=(KC.of_below N).trans hkd;have XN:J.heap.size<=w5.drew.heap.size:=N.size;refine JP (dH Tryz.f141 4) (by kernel_rfl) (qx w w.heap.size J.heap.size (.func (Fn.func fn2) #[] X) (.func (Fn.func fn4) #[] Y) (.func (Fn.func L) #[] C)) (by kernel_rfl) (acyc_of sh_acyc) ?_ ?_ ?_
 ·have S:∀i,(Array.replicate (dH Tryz.f141 4).toArray.size false).getD i false≠true:=by
   intro i h;simp[Array.getD_eq_getD_getElem?,Array.getElem?_replicate]at h;split at h<;>simp at h
  exact⟨rfl,rfl,rfl,rfl,rfl,rfl,f.blk CU.out,V.out.kc f XN,W.out.kc f XN,hk5.drew,HF5.out.kc f XN,fun i o t _ _ x=>absurd x (S i),fun x=>absurd x (S 0),fun i _ x=>absurd x (S i),(H.out.trans (N.mono H.out.size)).drew,rfl⟩
 ·intro A a w' i hs Z hi
  obtain⟨-,o,ho,-⟩:=mem_ready.1 hi;have hlt:=(aae.1 ho).1
  have u:i<138:=by
   have:=Ow;simp only[List.size_toArray]at hlt;omega
  exact op_all i u _ _ _ _ _ _ A a w' _ hs Z hi
 ·intro A a w' hs I Z
  have hsz:(dH Tryz.f141 4).toArray.size=138:=by simp only[List.size_toArray];exact Ow
  have T:∀i,i<138->A.getD i false=true:=by
   intro i hi;have d:=I i (by omega);have h2:i<A.size:=by omega
   simp[h2]at d⊢;exact d
  obtain⟨r,m,d,h2,h3,h4,h5,h6,h7⟩:=Z.oP (T 0 (by omega));have hr0:=h7 (T 137 (by omega));have iT:=kH T;have HI:=kH Z
  have HM:Hid (Li w' r):=kH ⟨m,h3,h4,fun k hk=>by
   obtain⟨i,hi1,hi2⟩:=ins_of hk
   exact h5 i k hi2 (T i hi1)⟩
  clear I T d h2 h3 h4 h5 h6 h7 Z;refine hK a w' ?_;go_wp2_with fail
  refine bodyPost_ret (v:=.map (some r)) ?_ HI.out.defers ?_
  ·simp[results,Tryz.results141,go_sem,hr0]
  ·exact⟨r,rfl,HM.out,HI.out.below⟩
section
variable {P:Program}{t:TypeId}{ps rs:Array TypeId}{vr:Bool}
theorem CP(w:World)(d:Nat)(h:P.underlying t=some (.func ps rs vr)):(Op.equalIn (d+1) t Value.nilFunc Value.nilFunc).run P w= .ok true w:=by
 simp[Op.equalIn,run_underlying h]
theorem BO(f:Go.Fn)(A:Array Value)(w:World)(d:Nat)(h:P.underlying t=some (.func ps rs vr)):(Op.equalIn (d+1) t (.func f #[] A) Value.nilFunc).run P w= .ok false w:=by
 simp[Op.equalIn,run_underlying h]
theorem UA(w:World)(h:P.underlying t=some (.func ps rs vr)):(binOp BinOp.eql t Value.nilFunc Value.nilFunc).run P w= .ok (.bool true) w:=by
 simp only[binOp];simp[Op.equal,Op.maxDepth,CP w 9999 h]
theorem Tf(f:Go.Fn)(A:Array Value)(w:World)(h:P.underlying t=some (.func ps rs vr)):(binOp BinOp.eql t (.func f #[] A) Value.nilFunc).run P w= .ok (.bool false) w:=by
 simp only[binOp];simp[Op.equal,Op.maxDepth,BO f A w 9999 h]
theorem Ux(w:World)(h:P.underlying t=some (.func ps rs vr)):(binOp BinOp.neq t Value.nilFunc Value.nilFunc).run P w= .ok (.bool false) w:=by
 simp only[binOp];simp[Op.equal,Op.maxDepth,CP w 9999 h]
theorem Ru(f:Go.Fn)(A:Array Value)(w:World)(h:P.underlying t=some (.func ps rs vr)):(binOp BinOp.neq t (.func f #[] A) Value.nilFunc).run P w= .ok (.bool true) w:=by
 simp only[binOp];simp[Op.equal,Op.maxDepth,BO f A w 9999 h]
end
def kR(sh:yx)(i:Nat)(t:ae):Bool:=
 match sh.list with
 | some p=>p t.kind
 | none=>match sh.kids[i]? with|some p=>p t.kind|none=>false
def dm(sh:yx):Nat->List ae->Bool
 | _,[]=>true
 | i,t::ts=>kR sh i t&&dm sh (i+1) ts
def qQ(sh:yx)(n:Nat):Bool:=
 match sh.list with
 | none=>decide (n=sh.kids.length)
 | some _=>decide (sh.most<=(n:Int))
def oJ(sh:yx)(t:ae):Bool:=sh.text t.text&&qQ sh t.kids.length&&dm sh 0 t.kids
theorem fitsN_any(D:yx)(v:Value)(t:ae)(A:Option Addr)(c:Nat)(w:World)(B:Nat)(hB:B<=w.heap.size)(hv:qH w v D)(hk:aJ w B A 0 t.kids)(hn:t.kids.length<=1000000000000)(hl:D.list=none)(hsk:D.kids.length<=10):
 Calls Tryz.prog 143 #[v,aZ t A c] w fun e w'=>e= .returned (.bool (oJ D t))/\Below w.heap.size w w':=by
 obtain⟨tv,Ak,ck,lv,rfl,f,R,F⟩:=hv;obtain⟨ft,ct,e1,hent,I⟩:=f;subst e1;rw[hl]at F;have hlv:lv= .nilFunc:=F;subst hlv;have E:oJ D t=(D.text t.text&&decide (t.kids.length=D.kids.length)&&dm D 0 t.kids):=by unfold oJ qQ;rw[hl]
 rw[E];unfold aZ;unfold Ue at hent;obtain⟨C,nY⟩:∃x,t.kids=x:=⟨_,rfl⟩
 obtain⟨n,g⟩:∃x,C.length=x:=⟨_,rfl⟩
 obtain⟨m,l⟩:∃x,D.kids.length=x:=⟨_,rfl⟩
 rw[nY]at hk hn⊢;rw[g]at hn⊢;rw[l]at hsk⊢;obtain⟨kd,hk0⟩:∃x,t.kind=x:=⟨_,rfl⟩
 obtain⟨x,hx0⟩:∃x,t.text=x:=⟨_,rfl⟩
 obtain⟨a,ha0⟩:∃x,t.at_=x:=⟨_,rfl⟩
 obtain⟨z,hz0⟩:∃x,t.end_=x:=⟨_,rfl⟩
 obtain⟨mo,hmo⟩:∃x,D.most=x:=⟨_,rfl⟩
 obtain⟨bt,X⟩:∃b,D.text x=b:=⟨_,rfl⟩
 rw[hk0,hx0,ha0,hz0,hmo,X];have iN:=kH I;have HBT:=kH X;have Lp:=kH R;have HK:=kH hk;have HN:=kH g;have TR:=kH l;have HL:=kH hl;have HB:=kH hB;clear I X R hk g l hl E nY hk0 hx0 ha0 hz0 hmo F hB;have hnn1:∀w':World,(binOp BinOp.eql 54 .nilFunc .nilFunc).run Tryz.prog w'= .ok (.bool true) w':=fun w'=>UA w' Tryz.underlying54
 have hnn2:∀w':World,(binOp BinOp.neq 54 .nilFunc .nilFunc).run Tryz.prog w'= .ok (.bool false) w':=fun w'=>Ux w' Tryz.underlying54
 go_in
 go_wp2_with fail
 generalize L:w.alloc (.cells #[.func (Fn.func ft) #[] ct,.slice Ak m ck,.nilFunc,.int .i64 mo] 197)=W1
 have V:Below w.heap.size w W1:=by rw[<- L];exact ag _ _
 have S:aj W1 w.heap.size 197 #[.func (Fn.func ft) #[] ct,.slice Ak m ck,.nilFunc,.int .i64 mo]:=by rw[<- L];exact aj.new w _ _
 have hs1:W1.heap.size=w.heap.size+1:=by rw[<- L];simp
 rw[<- hs1];generalize U:W1.alloc (.cells #[.int .i64 kd,.string x,.int .i64 a,.int .i64 z,.slice A n c] 24)=w2
 have W:Below W1.heap.size W1 w2:=by rw[<- U];exact ag _ _
 have tY:aj w2 W1.heap.size 24 #[.int .i64 kd,.string x,.int .i64 a,.int .i64 z,.slice A n c]:=by rw[<- U];exact aj.new W1 _ _
 have T:=S.below W S.lt;have lY:=V.trans (W.mono V.size);have Y:=iN.out x w2 (KC.of_below lY) lY.size;rw[HBT.out]at Y;have HCL:=kH Y;have Ij:=kH lY;have hs1b:w.heap.size<W1.heap.size:=by omega
 clear L U V S hs1 W lY Y;refine HCL.out.mono ?_;rintro e w3 ⟨rfl,M⟩;have d:=T.below M T.lt;have uM:=tY.below M tY.lt;have Ta:=Ij.out.trans (M.mono Ij.out.size);have p0:=d.cell 0;have p1:=d.cell 1;have p2:=d.cell 2;have p3:=d.cell 3;have q4:=uM.cell 4;have hlS:=d.lt;have hlN:=uM.lt;have iW:=kH d;have jA:=kH uM;have O:=kH Ta;clear d uM Ta T tY M;cases bt
 ·go_wp2_with fail
  go_ret
  exact⟨bH (by simp),O.out⟩
 by_cases j:n=m
 case neg=>
  have hne:((n:Int) !=(m:Int))=true:=by simp;omega
  have rC:=kH j;clear j;go_wp2_with fail
  go_ret
  exact⟨bH (by rw[decide_eq_false rC.out];simp),O.out⟩
 subst j;have hne:((n:Int) !=(n:Int))=false:=by simp
 go_wp2_with fail
 go_loopg [44] n (fun gk s44 wr=> ∃k:Nat,k+gk=n/\s44= .int .i64 (k:Int)/\dm D 0 C=dm D k (C.drop k)/\Below w3.heap.size w3 wr)
 case atStart=>exact⟨0,by omega,rfl,rfl,Below.refl _ _⟩
 case round=>
  obtain⟨k,hk,rfl,Q,N⟩:=hrel;have Lv:=kH Q;have qE:=kH N;have hz3:=N.size;have K:=iW.out.below N hlS;have p1:wr.cell? ⟨w.heap.size,1,none⟩=some (.slice Ak n ck):=K.cell 1;have p2:wr.cell? ⟨w.heap.size,2,none⟩=some .nilFunc:=K.cell 2;have hlSr:=K.lt;have HI:=kH hk;have hkn:k<=n:=by omega
  clear Q N K hk;by_cases r:k<n
  ·have hlt':(k:Int)<(n:Int):=by omega
   obtain⟨u,hu⟩:∃u,C[k]? =some u:=⟨_,aaf (by rw[HN.out];exact r)⟩
   obtain⟨vals,⟨b,J,hA,hbl,H⟩,hT⟩:=HK.out.get k u hu;obtain⟨A',c',jF,-⟩:=hT.five;subst hA;subst jF;have hbw:b<w.heap.size:=by have:=HB.out;omega
   have EU:b<w3.heap.size:=by omega
   have hbb:b<wr.heap.size:=by omega
   have tr:∀o v',w.cell? ⟨b,o,none⟩=some v'->wr.cell? ⟨b,o,none⟩=some v':=fun o v' h=>(qE.out.cell (p:=⟨b,o,none⟩) EU).trans ((O.out.cell (p:=⟨b,o,none⟩) hbw).trans h)
   have t0:wr.cell? ⟨b,J+k*5,none⟩=some (.int .i64 u.kind):=tr _ _ (by simpa using H 0 _ rfl);have t1:wr.cell? ⟨b,J+k*5+1,none⟩=some (.string u.text):=tr _ _ (by simpa using H 1 _ rfl);have t2:wr.cell? ⟨b,J+k*5+2,none⟩=some (.int .i64 u.at_):=tr _ _ (by simpa using H 2 _ rfl);have t3:wr.cell? ⟨b,J+k*5+3,none⟩=some (.int .i64 u.end_):=tr _ _ (by simpa using H 3 _ rfl);have t4:wr.cell? ⟨b,J+k*5+4,none⟩=some (.slice A' u.kids.length c'):=tr _ _ (by simpa using H 4 _ rfl);obtain⟨p,hp⟩:∃p,D.kids[k]? =some p:=⟨_,aaf (by rw[TR.out];exact r)⟩
   obtain⟨b',off',v',hAk,Z,oI⟩:=Lp.out k p hp;obtain⟨fn,cap,e1,y,zx⟩:=oI;subst e1;subst hAk;have KI:KC w wr:=(KC.of_below O.out).trans (KC.of_below qE.out);have OP:w.heap.size<=wr.heap.size:=by have:=O.out.size;omega
   have hv:wr.cell? ⟨b',off'+k,none⟩=some (.func (Fn.func fn) #[] cap):=KI.cell Z;have hbb':b'<wr.heap.size:=KI.lt Z;have MK:=ag wr (.cells #[.int .i64 u.kind,.string u.text,.int .i64 u.at_,.int .i64 u.end_,.slice A' u.kids.length c'] 24);have KL:=zx u.kind _ (KI.trans (KC.of_below MK)) (aac OP MK.size)
   have G:dm D k (C.drop k)=(p u.kind&&dm D (k+1) (C.drop (k+1))):=by
    have hd:C.drop k=u::C.drop (k+1):=by
     have hl2:k<C.length:=by rw[HN.out];exact r
     rw[List.drop_eq_getElem_cons hl2];rw[aaf hl2]at hu;injection hu with hu
     rw[hu]
    rw[hd];simp only[dm,kR];rw[HL.out,hp]
   obtain⟨bk,hbk⟩:∃q,p u.kind=q:=⟨_,rfl⟩
   rw[hbk]at KL G;have Ub:=kH KL;have CR:=kH G;have JN:=kH MK;unfold Ue at y;have hwr:IntKind.i64.wrap ((k:Int)+1)=(k:Int)+1:=IntWalk.i64_in _ (by omega);obtain⟨un,hun⟩:∃q,u.kids.length=q:=⟨_,rfl⟩
   rw[hun]at t4 Ub JN;clear H hT tr zx KL G MK KI Z hu hp hbk hun OP;go_wp2_with fail
   refine Ub.out.mono ?_;rintro e w5 ⟨rfl,hb5⟩;have gG:=kH (qE.out.trans ((JN.out.trans (hb5.mono JN.out.size)).mono qE.out.size));clear hb5;cases bk
   ·go_wp2_with fail
    go_ret
    have hend:dm D 0 C=false:=by rw[Lv.out,CR.out];simp
    exact⟨bH (by simp[hend]),O.out.trans (gG.out.mono O.out.size)⟩
   ·go_wp2_with fail
    go_roundg (gk - 1)
    case measure=>have:=HI.out;omega
    case rel=>exact⟨k+1,by have:=HI.out;omega,by simp,by rw[Lv.out,CR.out];simp,gG.out⟩
  ·have hke:k=n:=by omega
   have E:dm D 0 C=true:=by rw[Lv.out,hke,<- HN.out,List.drop_length];rfl
   have aN:=kH E;clear E;go_wp2_with fail
   go_ret
   exact⟨bH (by simp[aN.out]),O.out.trans (qE.out.mono O.out.size)⟩
theorem fitsL_any(E:yx)(v:Value)(t:ae)(A:Option Addr)(c:Nat)(w:World)(B:Nat)(hB:B<=w.heap.size)(hv:qH w v E)(f:aJ w B A 0 t.kids)(hn:t.kids.length<=1000000000000)(p:Int->Bool)(hl:E.list=some p):
 Calls Tryz.prog 143 #[v,aZ t A c] w fun e w'=>e= .returned (.bool (oJ E t))/\Below w.heap.size w w':=by
 obtain⟨tv,Ak,ck,lv,rfl,l,hrow,F⟩:=hv;obtain⟨ft,ct,e1,hent,I⟩:=l;subst e1;rw[hl]at F;obtain⟨fl,cl,e1,y,ZU⟩:=(show jE w lv p from F)
 subst e1;have D:oJ E t=(E.text t.text&&decide (E.most<=(t.kids.length:Int))&&dm E 0 t.kids):=by unfold oJ qQ;rw[hl]
 rw[D];unfold aZ;unfold Ue at hent y;obtain⟨C,nY⟩:∃x,t.kids=x:=⟨_,rfl⟩
 obtain⟨n,r⟩:∃x,C.length=x:=⟨_,rfl⟩
 obtain⟨m,hmm⟩:∃x,E.kids.length=x:=⟨_,rfl⟩
 rw[nY]at f hn⊢;rw[r]at hn⊢;rw[hmm];obtain⟨kd,hk0⟩:∃x,t.kind=x:=⟨_,rfl⟩
 obtain⟨x,hx0⟩:∃x,t.text=x:=⟨_,rfl⟩
 obtain⟨a,ha0⟩:∃x,t.at_=x:=⟨_,rfl⟩
 obtain⟨z,hz0⟩:∃x,t.end_=x:=⟨_,rfl⟩
 obtain⟨j,hmo⟩:∃x,E.most=x:=⟨_,rfl⟩
 have K:=kH ZU;obtain⟨bt,Y⟩:∃b,E.text x=b:=⟨_,rfl⟩
 rw[hk0,hx0,ha0,hz0,hmo,Y];have iN:=kH I;have HBT:=kH Y;have HK:=kH f;have HN:=kH r;have HL:=kH hl;have HB:=kH hB;clear I ZU Y hrow f r hmm hl D nY hk0 hx0 ha0 hz0 hmo F hB;have hnn1:∀w':World,(binOp BinOp.eql 54 (.func (Fn.func fl) #[] cl) .nilFunc).run Tryz.prog w'= .ok (.bool false) w':=fun w'=>Tf _ _ w' Tryz.underlying54
 have hnn2:∀w':World,(binOp BinOp.neq 54 (.func (Fn.func fl) #[] cl) .nilFunc).run Tryz.prog w'= .ok (.bool true) w':=fun w'=>Ru _ _ w' Tryz.underlying54
 go_in
 go_wp2_with fail
 generalize M:w.alloc (.cells #[.func (Fn.func ft) #[] ct,.slice Ak m ck,.func (Fn.func fl) #[] cl,.int .i64 j] 197)=W1
 have W:Below w.heap.size w W1:=by rw[<- M];exact ag _ _
 have T:aj W1 w.heap.size 197 #[.func (Fn.func ft) #[] ct,.slice Ak m ck,.func (Fn.func fl) #[] cl,.int .i64 j]:=by rw[<- M];exact aj.new w _ _
 have hs1:W1.heap.size=w.heap.size+1:=by rw[<- M];simp
 rw[<- hs1];generalize V:W1.alloc (.cells #[.int .i64 kd,.string x,.int .i64 a,.int .i64 z,.slice A n c] 24)=w2
 have X:Below W1.heap.size W1 w2:=by rw[<- V];exact ag _ _
 have tY:aj w2 W1.heap.size 24 #[.int .i64 kd,.string x,.int .i64 a,.int .i64 z,.slice A n c]:=by rw[<- V];exact aj.new W1 _ _
 have U:=T.below X T.lt;have lY:=W.trans (X.mono W.size);have Z:=iN.out x w2 (KC.of_below lY) lY.size;rw[HBT.out]at Z;have HCL:=kH Z;have Ij:=kH lY;have hs1b:w.heap.size<W1.heap.size:=by omega
 clear M V W T hs1 X lY Z;refine HCL.out.mono ?_;rintro e w3 ⟨rfl,N⟩;have g:=U.below N U.lt;have uM:=tY.below N tY.lt;have Ta:=Ij.out.trans (N.mono Ij.out.size);have p0:=g.cell 0;have p1:=g.cell 1;have p2:=g.cell 2;have p3:=g.cell 3;have q4:=uM.cell 4;have hlS:=g.lt;have hlN:=uM.lt;have iW:=kH g;have jA:=kH uM;have R:=kH Ta;clear g uM Ta U tY N;cases bt
 ·go_wp2_with fail
  go_ret
  exact⟨bH (by simp),R.out⟩
 by_cases Q:j<=(n:Int)
 case neg=>
  have hne:decide ((n:Int)<j)=true:=decide_eq_true (by omega);have rC:=kH Q;clear Q;go_wp2_with fail
  go_ret
  exact⟨bH (by have h:=rC.out;rw[decide_eq_false (p:=j<=(n:Int)) (by omega)];simp),R.out⟩
 have hne:decide ((n:Int)<j)=false:=decide_eq_false (by omega);have rC:=kH Q;clear Q;go_wp2_with fail
 go_loopg [44] n (fun gk s44 wr=> ∃k:Nat,k+gk=n/\s44= .int .i64 (k:Int)/\dm E 0 C=dm E k (C.drop k)/\Below w3.heap.size w3 wr)
 case atStart=>exact⟨0,by omega,rfl,rfl,Below.refl _ _⟩
 case round=>
  obtain⟨k,f,rfl,S,O⟩:=hrel;have Lv:=kH S;have qE:=kH O;have hz3:=O.size;have L:=iW.out.below O hlS;have p1:wr.cell? ⟨w.heap.size,1,none⟩=some (.slice Ak m ck):=L.cell 1;have p2:wr.cell? ⟨w.heap.size,2,none⟩=some (.func (Fn.func fl) #[] cl):=L.cell 2;have hlSr:=L.lt;have HI:=kH f;have hkn:k<=n:=by omega
  clear S O L f;by_cases hlt:k<n
  ·have hlt':(k:Int)<(n:Int):=by omega
   obtain⟨u,d⟩:∃u,C[k]? =some u:=⟨_,aaf (by rw[HN.out];exact hlt)⟩
   obtain⟨vals,⟨b,J,hA,hbl,H⟩,hT⟩:=HK.out.get k u d;obtain⟨A',c',jF,-⟩:=hT.five;subst hA;subst jF;have hbw:b<w.heap.size:=by have:=HB.out;omega
   have EU:b<w3.heap.size:=by omega
   have hbb:b<wr.heap.size:=by omega
   have tr:∀o v',w.cell? ⟨b,o,none⟩=some v'->wr.cell? ⟨b,o,none⟩=some v':=fun o v' h=>(qE.out.cell (p:=⟨b,o,none⟩) EU).trans ((R.out.cell (p:=⟨b,o,none⟩) hbw).trans h)
   have t0:wr.cell? ⟨b,J+k*5,none⟩=some (.int .i64 u.kind):=tr _ _ (by simpa using H 0 _ rfl);have t1:wr.cell? ⟨b,J+k*5+1,none⟩=some (.string u.text):=tr _ _ (by simpa using H 1 _ rfl);have t2:wr.cell? ⟨b,J+k*5+2,none⟩=some (.int .i64 u.at_):=tr _ _ (by simpa using H 2 _ rfl);have t3:wr.cell? ⟨b,J+k*5+3,none⟩=some (.int .i64 u.end_):=tr _ _ (by simpa using H 3 _ rfl);have t4:wr.cell? ⟨b,J+k*5+4,none⟩=some (.slice A' u.kids.length c'):=tr _ _ (by simpa using H 4 _ rfl);have KI:KC w wr:=(KC.of_below R.out).trans (KC.of_below qE.out);have OP:w.heap.size<=wr.heap.size:=by have:=R.out.size;omega
   have MK:=ag wr (.cells #[.int .i64 u.kind,.string u.text,.int .i64 u.at_,.int .i64 u.end_,.slice A' u.kids.length c'] 24);have KL:=K.out u.kind _ (KI.trans (KC.of_below MK)) (aac OP MK.size)
   have G:dm E k (C.drop k)=(p u.kind&&dm E (k+1) (C.drop (k+1))):=by
    have hd:C.drop k=u::C.drop (k+1):=by
     have hl2:k<C.length:=by rw[HN.out];exact hlt
     rw[List.drop_eq_getElem_cons hl2];rw[aaf hl2]at d;injection d with d
     rw[d]
    rw[hd];simp only[dm,kR];rw[HL.out]
   obtain⟨bk,hbk⟩:∃q,p u.kind=q:=⟨_,rfl⟩
   rw[hbk]at KL G;have Ub:=kH KL;have CR:=kH G;have JN:=kH MK;have hwr:IntKind.i64.wrap ((k:Int)+1)=(k:Int)+1:=IntWalk.i64_in _ (by omega);obtain⟨un,hun⟩:∃q,u.kids.length=q:=⟨_,rfl⟩
   rw[hun]at t4 Ub JN;clear H hT tr KL G MK KI d hbk hun OP;go_wp2_with fail
   refine Ub.out.mono ?_;rintro e w5 ⟨rfl,hb5⟩;have gG:=kH (qE.out.trans ((JN.out.trans (hb5.mono JN.out.size)).mono qE.out.size));clear hb5;cases bk
   ·go_wp2_with fail
    go_ret
    have hend:dm E 0 C=false:=by rw[Lv.out,CR.out];simp
    exact⟨bH (by simp[hend]),R.out.trans (gG.out.mono R.out.size)⟩
   ·go_wp2_with fail
    go_roundg (gk - 1)
    case measure=>have:=HI.out;omega
    case rel=>exact⟨k+1,by have:=HI.out;omega,by simp,by rw[Lv.out,CR.out];simp,gG.out⟩
  ·have hke:k=n:=by omega
   have D:dm E 0 C=true:=by rw[Lv.out,hke,<- HN.out,List.drop_length];rfl
   have aN:=kH D;clear D;go_wp2_with fail
   go_ret
   exact⟨bH (by have h:=rC.out;rw[decide_eq_true (p:=j<=(n:Int)) (by omega),aN.out];simp),R.out.trans (qE.out.mono R.out.size)⟩
theorem fits_any(C:yx)(v:Value)(t:ae)(A:Option Addr)(c:Nat)(w:World)(B:Nat)(E:B<=w.heap.size)(I:qH w v C)(F:aJ w B A 0 t.kids)(H:t.kids.length<=1000000000000)(D:C.kids.length<=10):
 Calls Tryz.prog 143 #[v,aZ t A c] w fun e w'=>e= .returned (.bool (oJ C t))/\Below w.heap.size w w':=by
 cases G:C.list with
 | none=>exact fitsN_any C v t A c w B E I F H G D
 | some p=>exact fitsL_any C v t A c w B E I F H p G
end Go.Proofs.YtoepemlnlpamlaaGreat
