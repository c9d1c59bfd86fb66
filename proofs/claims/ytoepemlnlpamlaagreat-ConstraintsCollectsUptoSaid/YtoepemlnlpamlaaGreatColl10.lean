/- Collect agrees with the reference. Part 10: Rw1 Rw2 Rw3 Rw4 RwP RwQ ColF ColM ColR1 ColR2. -/
import Derived.Test.YtoepemlnlpamlaaGreatColl09
set_option maxRecDepth 100000
set_option maxHeartbeats 4000000
namespace Go.Proofs.YtoepemlnlpamlaaGreat
open Go.RowKit
def uF(l:List Dc)(f:Bool)(x:ByteArray):Int:=match nS l f x with|some k=>(k:Int)|none=> -1
def xW(ds:List Dc)(s:List Nat)(x:ByteArray):Int:=match nR ds s x with|some k=>(k:Int)|none=> -1
theorem EZ{A:Type}(p:A->Bool):∀(l:List A) (k:Nat) (d:A),(∀j e,j<k->l[j]? =some e->p e=false)->l[k]? =some d->p d=true->l.findIdx? p=some k
 | [],k,d,_,h,_=>by simp at h
 | a::l,0,d,_,h,hp=>by
  simp at h;subst h;rw[List.findIdx?_cons,hp];rfl
 | a::l,k+1,d,hno,h,hp=>by
  rw[List.findIdx?_cons,hno 0 a (Nat.succ_pos _) rfl,EZ p l k d (fun j e C B=>hno (j+1) e (by omega) (by simpa using B)) (by simpa using h) hp];rfl
theorem LK{B:Type}(p:B->Bool)(l:List B)(h:∀j e,j<l.length->l[j]? =some e->p e=false):l.findIdx? p=none:=by
 rw[List.findIdx?_eq_none_iff];intro x D;obtain⟨j,A,C⟩:=List.mem_iff_getElem.1 D;exact h j x A (by rw[ace A,C])
theorem Un{A:Type}(p:A->Bool):∀(l:List A) (k:Nat) (d:A),(∀j e,j<k->l[j]? =some e->p e=false)->l[k]? =some d->p d=true->l.find? p=some d
 | [],k,d,_,h,_=>by simp at h
 | a::l,0,d,_,h,hp=>by
  simp at h;subst h;rw[List.find?_cons,hp]
 | a::l,k+1,d,hno,h,hp=>by
  rw[List.find?_cons,hno 0 a (Nat.succ_pos _) rfl,Un p l k d (fun j e C B=>hno (j+1) e (by omega) (by simpa using B)) (by simpa using h) hp]
theorem find_no{B:Type}(p:B->Bool)(l:List B)(h:∀j e,j<l.length->l[j]? =some e->p e=false):l.find? p=none:=by
 rw[List.find?_eq_none];intro x D;obtain⟨j,A,C⟩:=List.mem_iff_getElem.1 D;simp[h j x A (by rw[ace A,C])]
theorem Kc{x y:ByteArray}(h:¬x=y):(x.toList==y.toList)=false:=by
 rw[beq_eq_false_iff_ne];exact fun e=>h (rJ (by rw[<- ByteArray.toList_eq,<- ByteArray.toList_eq,e]))
theorem BU(A:Option Addr)(n c:Nat)(l:List Dc)(f:Bool)(x:ByteArray)(w:World)(h:aS 4 bQ w w.heap.size A l)(t:l.length=n)(hn:n<=1000000):
 Calls Tryz.prog 155 #[.slice A n c,.bool f,.string x] w fun e w'=>e= .returned (.int .i64 (uF l f x))/\Below w.heap.size w w':=by
 have H:=kH h;have z:=kH t;clear h t;go_in
 go_wp2_with fail
 go_loopg [7] n (fun gk s wr=> ∃k:Nat,k+gk=n/\s= .int .i64 (k:Int)/\Below w.heap.size w wr/\∀j d,j<k->l[j]? =some d->pD f x d=false)
 case atStart=>exact⟨0,by omega,rfl,Below.refl _ _,fun j d V=>by omega⟩
 obtain⟨k,u,rfl,hB,r⟩:=hrel;have a1:k<=n:=by omega
 have F:=kH u;have S:=kH r;clear u r;by_cases X:k<n
 ·obtain⟨d,U⟩:∃d,l[k]? =some d:=⟨_,ace (by rw[z.out];exact X)⟩
  obtain⟨b,o,g,hb,T⟩:=(H.out.below hB (ab9 _)) k _ U;subst g;obtain⟨kd, I⟩:=ag d.kind;obtain⟨R, J⟩:=ag d.name;have d0:wr.cell? ⟨b,o+k*4,none⟩=some (.int .i64 kd):=by rw[<- I];simpa using T 0 _ rfl
  have d1:wr.cell? ⟨b,o+k*4+1,none⟩=some (.string R):=by rw[<- J];exact T 1 _ rfl
  have y:pD f x d=((decide (kd=1)==f)&&decide (R=x)):=by unfold pD;rw[I,J]
  have Y:=kH U;have L:=kH y;have a6:(k:Int)<(n:Int):=by omega
  have E:pD f x d=false->∀j e,j<k+1->l[j]? =some e->pD f x e=false:=fun hf j e V O=>by
   by_cases W:j=k
   ·subst W
    rw[Y.out]at O;cases O
    exact hf
   exact S.out j e (by omega) O
  have P:=kH E
  have v:pD f x d=true->uF l f x=(k:Int):=fun hp=>by
   unfold uF;rw[show nS l f x=some k from EZ _ l k d S.out Y.out hp]
  have Z:=kH v;clear T U y I J E v;have D:(decide (kd=1)==f)=true\/(decide (kd=1)==f)=false:=by cases (decide (kd=1)==f)<;>simp
  by_cases Q:kd=1
  ·subst Q
   cases f with
   | true=>
    by_cases K:R=x
    ·subst K
     have B:=Z.out (by rw[L.out];simp);have C:=kH B;clear B D;go_wp2_with fail
     go_ret
     rw[C.out];exact⟨rfl,by(repeat first|exact .refl _ _|assumption|refine .trans ?_ (.mono (by assumption) ?_)|refine .alloc ?_ ?_ _|refine .setCell ?_ ?_ _|refine .drew ?_|refine aL ?_ _|omega|(simp<;>omega))⟩
    have m:=Kc K;have B:=P.out (by rw[L.out,decide_eq_false K];simp);have C:=kH B;clear B D;go_wp2_with fail
    go_roundg (gk - 1)
    case measure=>have:=F.out;omega
    exact⟨k+1,by have:=F.out;omega,by go_num,by(repeat first|exact .refl _ _|assumption|refine .trans ?_ (.mono (by assumption) ?_)|refine .alloc ?_ ?_ _|refine .setCell ?_ ?_ _|refine .drew ?_|refine aL ?_ _|omega|(simp<;>omega)),C.out⟩
   | false=>
    have B:=P.out (by rw[L.out];simp);have C:=kH B;clear B D;go_wp2_with fail
    go_roundg (gk - 1)
    case measure=>have:=F.out;omega
    exact⟨k+1,by have:=F.out;omega,by go_num,by(repeat first|exact .refl _ _|assumption|refine .trans ?_ (.mono (by assumption) ?_)|refine .alloc ?_ ?_ _|refine .setCell ?_ ?_ _|refine .drew ?_|refine aL ?_ _|omega|(simp<;>omega)),C.out⟩
  have a7:(kd==1)=false:=by simpa using Q
  cases f with
  | false=>
   by_cases K:R=x
   ·subst K
    have B:=Z.out (by rw[L.out,decide_eq_false Q];simp);have C:=kH B;clear B D;go_wp2_with fail
    go_ret
    rw[C.out];exact⟨rfl,by(repeat first|exact .refl _ _|assumption|refine .trans ?_ (.mono (by assumption) ?_)|refine .alloc ?_ ?_ _|refine .setCell ?_ ?_ _|refine .drew ?_|refine aL ?_ _|omega|(simp<;>omega))⟩
   have m:=Kc K;have B:=P.out (by rw[L.out,decide_eq_false K];simp);have C:=kH B;clear B D;go_wp2_with fail
   go_roundg (gk - 1)
   case measure=>have:=F.out;omega
   exact⟨k+1,by have:=F.out;omega,by go_num,by(repeat first|exact .refl _ _|assumption|refine .trans ?_ (.mono (by assumption) ?_)|refine .alloc ?_ ?_ _|refine .setCell ?_ ?_ _|refine .drew ?_|refine aL ?_ _|omega|(simp<;>omega)),C.out⟩
  | true=>
   have B:=P.out (by rw[L.out,decide_eq_false Q];simp);have C:=kH B;clear B D;go_wp2_with fail
   go_roundg (gk - 1)
   case measure=>have:=F.out;omega
   exact⟨k+1,by have:=F.out;omega,by go_num,by(repeat first|exact .refl _ _|assumption|refine .trans ?_ (.mono (by assumption) ?_)|refine .alloc ?_ ?_ _|refine .setCell ?_ ?_ _|refine .drew ?_|refine aL ?_ _|omega|(simp<;>omega)),C.out⟩
 have B:uF l f x= -1:=by
  unfold uF;rw[show nS l f x=none from LK _ l (fun j e V O=>S.out j e (by rw[z.out]at V;omega) O)]
 have C:=kH B;clear B;go_wp2_with fail
 go_ret
 rw[C.out];exact⟨rfl,by(repeat first|exact .refl _ _|assumption|refine .trans ?_ (.mono (by assumption) ?_)|refine .alloc ?_ ?_ _|refine .setCell ?_ ?_ _|refine .drew ?_|refine aL ?_ _|omega|(simp<;>omega))⟩
theorem IV(E:RE)(G:List Dc)(mk:Int)(q:RW)(V:RQ)(w:World)(h:dV E G mk q V w)(ub:Option Nat)(A:Option Addr)(n c:Nat)(s:List Nat)(hs:gG w ub A s)(R:s.length=n)(D:∀i∈s,i<q.ds.length)(x:ByteArray)(hn:n<=1000000):
 Calls Tryz.prog 157 #[.pointer (some ⟨E.rp,0,none⟩),.slice A n c,.string x] w fun e w'=>e= .returned (.int .i64 (xW q.ds s x))/\Below w.heap.size w w':=by
 have F:=hs.rowAt;have X:=h.ds.rowAt (cells:=bQ) (l:=q.ds) rfl rfl (fun _ _=>rfl) rfl;obtain⟨ds, P⟩:=ag q.ds;have B:=h.blk;rw[P]at D X B⊢;obtain⟨nd, J⟩:=ag ds.length;rw[J]at B D;have H:=kH F;have HD:=kH X;have tO:=kH B;have Mj:=kH D;have jK:=kH R;have qQ:=kH J;clear h hs F X B D R P J;go_in
 go_wp2_with fail
 go_loopg [7] n (fun gk sl wr=> ∃k:Nat,k+gk=n/\sl= .int .i64 (k:Int)/\Below w.heap.size w wr/\∀j i,j<k->s[j]? =some i->decide ((ds[i]?).map Dc.name=some x)=false)
 case atStart=>exact⟨0,by omega,rfl,Below.refl _ _,fun j d v=>by omega⟩
 obtain⟨k,hk,rfl,Z,ht⟩:=hrel;have a7:k<=n:=by omega
 have r:=kH hk;have W:=kH ht;clear hk ht;by_cases D:k<n
 ·obtain⟨i,T⟩:∃d,s[k]? =some d:=⟨_,ace (by rw[jK.out];exact D)⟩
  have y:i<nd:=Mj.out i (acn T);obtain⟨d,I⟩:∃d,ds[i]? =some d:=⟨_,ace (by rw[qQ.out];exact y)⟩
  obtain⟨b,o,hA,hb,hc⟩:=(H.out.below Z (ab9 _)) k _ T;subst hA;obtain⟨f,o2,Y,z,O⟩:=(HD.out.below Z (ab9 _)) i _ I;have B:=tO.out.below Z tO.out.lt;rw[Y]at B;obtain⟨S, K⟩:=ag d.name;have r0:wr.cell? ⟨E.rp,0,none⟩=some (.slice (some ⟨f,o2,none⟩) nd V.dc):=B.cell 0;have lr:=B.lt;have d0:wr.cell? ⟨b,o+k,none⟩=some (.int .i64 (i:Int)):=by simpa using hc 0 _ rfl
  have d1:wr.cell? ⟨f,o2+i*4+1,none⟩=some (.string S):=by rw[<- K];exact O 1 _ rfl
  have m:decide ((ds[i]?).map Dc.name=some x)=decide (S=x):=by
   rw[I,<- K];simp
  have t:=kH T;have g:=kH m;have a8:(k:Int)<(n:Int):=by omega
  have a6:(i:Int)<(nd:Int):=by omega
  have a1:¬((i:Int)<0):=by omega
  clear hc O I m K B T hb z;by_cases U:S=x
  ·subst U
   have C:xW ds s S=(i:Int):=by
    unfold xW;rw[show nR ds s S=some i from Un _ s k i W.out t.out (by rw[g.out];simp)]
   have L:=kH C;clear C;go_wp2_with fail
   go_quiet (fail)
   go_wp2_with fail
   go_ret
   rw[L.out];exact⟨rfl,by(repeat first|exact .refl _ _|assumption|refine .trans ?_ (.mono (by assumption) ?_)|refine .alloc ?_ ?_ _|refine .setCell ?_ ?_ _|refine .drew ?_|refine aL ?_ _|omega|(simp<;>omega))⟩
  have NK:=Kc U
  have C:∀j i,j<k+1->s[j]? =some i->decide ((ds[i]?).map Dc.name=some x)=false:=fun j e v Q=>by
   by_cases u:j=k
   ·subst u
    rw[t.out]at Q;cases Q
    rw[g.out];exact decide_eq_false U
   exact W.out j e (by omega) Q
  have L:=kH C;clear C U;go_wp2_with fail
  go_quiet (fail)
  go_wp2_with fail
  go_roundg (gk - 1)
  case measure=>have:=r.out;omega
  exact⟨k+1,by have:=r.out;omega,by go_num,by(repeat first|exact .refl _ _|assumption|refine .trans ?_ (.mono (by assumption) ?_)|refine .alloc ?_ ?_ _|refine .setCell ?_ ?_ _|refine .drew ?_|refine aL ?_ _|omega|(simp<;>omega)),L.out⟩
 have C:xW ds s x= -1:=by
  unfold xW;rw[show nR ds s x=none from find_no _ s (fun j e v Q=>W.out j e (by rw[jK.out]at v;omega) Q)]
 have L:=kH C;clear C;go_wp2_with fail
 go_ret
 rw[L.out];exact⟨rfl,by(repeat first|exact .refl _ _|assumption|refine .trans ?_ (.mono (by assumption) ?_)|refine .alloc ?_ ?_ _|refine .setCell ?_ ?_ _|refine .drew ?_|refine aL ?_ _|omega|(simp<;>omega))⟩
theorem dV.yH{E:RE}{G:List Dc}{mk:Int}{q:RW}{V:RQ}{w:World}(h:dV E G mk q V w)(i:Nat)(F:i<q.uses.length):
 ∃b A,E.uA=some ⟨b,A,none⟩/\b<w.heap.size/\(∃u,w.cell? ⟨b,A+i,none⟩=some (.int .i64 u))/\w.frozen? ⟨b,A+i,none⟩=false /\
  ∀y:Int,dV E G mk { q with uses:=q.uses.set i y } V (w.setCell ⟨b,A+i,none⟩ (.int .i64 y))/\KW E w (w.setCell ⟨b,A+i,none⟩ (.int .i64 y)):=by
 obtain⟨b,A,H,K,-,-,J,D,C⟩:=h.us.form (by omega);have B:E.uA=some ⟨b,A,none⟩:=by injection K
 refine⟨b,A,B,D,⟨_,C i (.int .i64 q.uses[i]) (by simp[bL,F])⟩,?_,fun y=>⟨h.JD B i F y,kw_use B w i _⟩⟩;obtain⟨cur,I⟩:=h.us.typed (g:=b) (by rw[B];rfl);simp[World.frozen?,I]
theorem BS(E:RE)(G:List Dc)(mk:Int)(q:RW)(V:RQ)(w:World)(h:dV E G mk q V w)(hN:q.list.length<=1000000)(T:E.base<=w.heap.size)(C:Int)(t:ae)(A:Option Addr)(c:Nat):
 Calls Tryz.prog 158 #[.pointer (some ⟨E.rp,0,none⟩),aO t A c,.int .i64 C] w fun e w'=>e= .returned (.tuple #[])/\∃n,dV E G mk (rC q C t) n w'/\KW E w w':=by
 obtain⟨i0,g,a7,a8,aa⟩:=info_parts Uq;have r:Hid (rC q C t= { q with list:=q.list++[⟨C,t.at_,t.end_,t.text⟩] }):=kH rfl;unfold aO;obtain⟨q',hq⟩:∃z,rC q C t=z:=⟨_,rfl⟩
 rw[hq]at r⊢;obtain⟨k, y⟩:=ag t.kind;obtain⟨x, U⟩:=ag t.text;obtain⟨a, S⟩:=ag t.at_;obtain⟨z,K⟩:∃z,t.end_=z:=⟨_,rfl⟩
 obtain⟨m, v⟩:=ag t.kids.length;rw[y,U,S,K,v];rw[U,S,K]at r;obtain⟨I, qo⟩:=ag q.list.length;rw[qo]at hN;have H:=kH h;have X:=kH qo;clear hq y U S K v h qo;go_in
 go_wp2_with fail
 generalize R:w.alloc (.cells #[.int .i64 k,.string x,.int .i64 a,.int .i64 z,.slice A m c] 24)=W1
 have O:Below w.heap.size w W1:=by rw[<- R];exact ai _ _
 have F:ah W1 w.heap.size 24 #[.int .i64 k,.string x,.int .i64 a,.int .i64 z,.slice A m c]:=by rw[<- R];exact ah.new w _ _
 have W:=H.out.below O;have c2:W1.cell? ⟨E.rp,2,none⟩=some (.slice V.lA I V.lc):=by have:=W.blk.cell 2;rw[X.out]at this;exact this
 have af:=W.blk.lt;have b:=F.cell 1;have a1:=F.cell 2;have a6:=F.cell 3;have al:=F.lt;have J:=W.ls;rw[X.out]at J;have qx:=kH J;have H1:=kH W;have Y:=kH O;have u:(Value.slice V.lA I V.lc).ownBlock≠some E.rp:=J.bB W.blk (by decide);have Q:(Value.slice V.lA I V.lc).ownBlock≠some w.heap.size:=J.bB F (by decide);have fw:=kH u;have yB:=kH Q;have ad:E.base<=W1.heap.size:=aca T O.size;clear R J W F O u Q;refine dF (fun w'=>w'.cell? ⟨E.rp,2,none⟩=some (.slice V.lA I V.lc)/\w'.cell? ⟨w.heap.size,1,none⟩=some (.string x)/\w'.cell? ⟨w.heap.size,2,none⟩=some (.int .i64 a)/\w'.cell? ⟨w.heap.size,3,none⟩=some (.int .i64 z)) [17] [true,true,true,true,true,true,true,true,true,true,true,true,true,false,false,false,false,false] (by kernel_rfl) (by kernel_rfl) rfl (by kernel_rfl) ?_;have l:W1.drew.cell? ⟨E.rp,2,none⟩=some (.slice V.lA I V.lc)/\W1.drew.cell? ⟨w.heap.size,1,none⟩=some (.string x)/\W1.drew.cell? ⟨w.heap.size,2,none⟩=some (.int .i64 a)/\W1.drew.cell? ⟨w.heap.size,3,none⟩=some (.int .i64 z):=⟨c2,b,a1,a6⟩
 iterate 13(refine eD rfl l (by intro w' j;obtain⟨an,ao,aq,ar⟩:=j;go_simp;rfl) ?_;simp only[Act.put,sA,sZ,sC])
 refine eu (w':=W1.drew.alloc (.cells #[.int .i64 C,.int .i64 a,.int .i64 z,.string x,.slice none 0 0] 78)) rfl (by go_simp;rfl) ?_ ?_
 ·exact fun _=>⟨by go_simp,by go_simp,by go_simp,by go_simp⟩
 simp only[Act.put,sA,sZ,sC];refine jR rfl (fG _ (.tmp 10) (.tmp 19) _ rfl E.base 78 i0 _ 5 64 Tryz.underlying31 g a7 a8 aa rfl (.slice V.lA I V.lc) I (q.list.flatMap iN) rfl (qx.out.drew.alloc _) ⟨W1.heap.size,0,none⟩ 1 1 (iN ⟨C,a,z,x⟩) rfl rfl (X4 _ _ _ _ _ _ _ (by go_simp) (by go_simp) (by go_simp) (by go_simp) (by go_simp)) (by simp[iN,Value.oneCell']) (by simp only[maxLen];omega) (by omega) (by simp;omega) ?_);intro v3 P D B rF;obtain⟨A3,c3,f,-,-⟩:=D.shape;subst f;have ab:=B.size;simp at ab
 have q1:P.cell? ⟨E.rp,2,none⟩=some (.slice V.lA I V.lc):=by
  rw[B.cell_far _ (by simp;omega) (fun L=>fw.out L.symm)];go_simp
 have q2:P.cell? ⟨w.heap.size,1,none⟩=some (.string x):=by
  rw[B.cell_far _ (by simp;omega) (fun L=>yB.out L.symm)];go_simp
 have q3:P.cell? ⟨w.heap.size,2,none⟩=some (.int .i64 a):=by
  rw[B.cell_far _ (by simp;omega) (fun L=>yB.out L.symm)];go_simp
 have q4:P.cell? ⟨w.heap.size,3,none⟩=some (.int .i64 z):=by
  rw[B.cell_far _ (by simp;omega) (fun L=>yB.out L.symm)];go_simp
 have Z:=ah.grown (ah.alloc (ah.drew H1.out.blk) (.cells #[.int .i64 C,.int .i64 a,.int .i64 z,.string x,.slice none 0 0] 78)) B (fun L=>fw.out L.symm);have q5:=Z.frozen 2
 have HR:Hid (∃n,dV E G mk q' n (P.setCell ⟨E.rp,2,none⟩ (.slice A3 (I+1) c3))/\KW E w (P.setCell ⟨E.rp,2,none⟩ (.slice A3 (I+1) c3))):=kH (by
  have zg:Below W1.heap.size W1 (W1.drew.alloc (.cells #[.int .i64 C,.int .i64 a,.int .i64 z,.string x,.slice none 0 0] 78)):=((Below.refl _ _).drew).alloc (ab9 _) _;have h2:=H1.out.below zg;have hp:=h2.note_ ⟨C,a,z,x⟩ (A:=A3) (c:=c3) (by rw[X.out,List.flatMap_append];simpa using D) (by rw[X.out];exact B);have hk:=TV (E:=E) (w':=P) h2.ls (.inr rfl) (by rw[X.out];exact B) 2 (.slice A3 (I+1) c3);rw[X.out]at hp;rw[r.out]
  exact⟨_,hp,(KW.of_below (Y.out.trans (zg.mono Y.out.size))).trans hk⟩)
 clear Z D B rF;refine⟨fun _=>⟨q1,q2,q3,q4⟩,?_⟩;iterate 2(simp only[Act.put,sA,sZ,sC];refine eu (w':=P) rfl (by go_simp;rfl) (fun _=>⟨q1,q2,q3,q4⟩) ?_)
 simp only[Act.put,sA,sZ,sC];refine gH (w':=P.setCell ⟨E.rp,2,none⟩ (.slice A3 (I+1) c3)) rfl (by go_simp) (by simp) ?_;refine gp ?_;simp only[Act.put];go_wp2_with fail
 go_end0
 exact⟨rfl,HR.out⟩
theorem Gw(E:RE)(G:List Dc)(mk:Int)(q:RW)(V:RQ)(w:World)(h:dV E G mk q V w)(hN:q.ds.length<=1000000)(hU:q.num<q.uses.length)(u:E.base<=w.heap.size)(kind owner:Int)(t:ae)(A:Option Addr)(c:Nat):
 Calls Tryz.prog 209 #[.pointer (some ⟨E.rp,0,none⟩),aO t A c,.int .i64 kind,.int .i64 owner] w fun e w'=>e= .returned (.int .i64 (q.ds.length:Int))/\∃V',dV E G mk (qJ q kind t owner) V' w'/\KW E w w':=by
 obtain⟨i0,ab,aq,ar,au⟩:=info_parts Ha;obtain⟨C, P⟩:=ag q.num;have HP:Hid (qJ q kind t owner= { ({ q with ds:=q.ds++[(⟨kind,t.text,C,owner⟩:Dc)] }:RW) with uses:=q.uses.set C (q.ds.length:Int) }):=kH (by subst P;rfl);unfold aO;obtain⟨q',hq⟩:∃z,qJ q kind t owner=z:=⟨_,rfl⟩
 rw[hq]at HP⊢;obtain⟨k, a7⟩:=ag t.kind;obtain⟨x, l⟩:=ag t.text;obtain⟨a, a6⟩:=ag t.at_;obtain⟨z,T⟩:∃z,t.end_=z:=⟨_,rfl⟩
 obtain⟨m, r⟩:=ag t.kids.length;rw[a7,l,a6,T,r];rw[l]at HP;obtain⟨D, qo⟩:=ag q.ds.length;obtain⟨nu, n⟩:=ag q.uses.length;rw[qo]at hN⊢;rw[n,P]at hU;have H:=kH h;have U:=kH qo;have BJ:=kH n;have sJ:=kH P;clear hq a7 l a6 T r h qo n P;go_in
 go_wp2_with fail
 generalize y:w.alloc (.cells #[.int .i64 k,.string x,.int .i64 a,.int .i64 z,.slice A m c] 24)=W1
 have O:Below w.heap.size w W1:=by rw[<- y];exact ai _ _
 have L:ah W1 w.heap.size 24 #[.int .i64 k,.string x,.int .i64 a,.int .i64 z,.slice A m c]:=by rw[<- y];exact ah.new w _ _
 have X:=H.out.below O;have c0:W1.cell? ⟨E.rp,0,none⟩=some (.slice V.dA D V.dc):=by have:=X.blk.cell 0;rw[U.out]at this;exact this
 have c4:W1.cell? ⟨E.rp,4,none⟩=some (.int .i64 (C:Int)):=by have:=X.blk.cell 4;rw[sJ.out]at this;exact this
 have b0:=X.blk.lt;have ao:=L.cell 1;have b1:=L.lt;have I:=X.ds;rw[U.out]at I;have qx:=kH I;have H1:=kH X;have f:=kH O;have a8:(Value.slice V.dA D V.dc).ownBlock≠some E.rp:=I.bB X.blk (by decide);have R:(Value.slice V.dA D V.dc).ownBlock≠some w.heap.size:=I.bB L (by decide);have fw:=kH a8;have yB:=kH R;have aw:E.base<=W1.heap.size:=aca u O.size;clear y I X L O a8 R;refine dF (fun w'=>w'.cell? ⟨E.rp,0,none⟩=some (.slice V.dA D V.dc)/\w'.cell? ⟨w.heap.size,1,none⟩=some (.string x)/\w'.cell? ⟨E.rp,4,none⟩=some (.int .i64 (C:Int))) [20] [true,true,true,true,true,true,true,true,true,true,true,true,true,true,true,false,false,false,false,false,false] (by kernel_rfl) (by kernel_rfl) rfl (by kernel_rfl) ?_;have aa:W1.drew.cell? ⟨E.rp,0,none⟩=some (.slice V.dA D V.dc)/\W1.drew.cell? ⟨w.heap.size,1,none⟩=some (.string x)/\W1.drew.cell? ⟨E.rp,4,none⟩=some (.int .i64 (C:Int)):=⟨c0,ao,c4⟩
 iterate 15(refine eD rfl aa (by intro w' Z;obtain⟨af,al,b4⟩:=Z;go_simp;rfl) ?_;simp only[Act.put,sA,sZ,sC])
 refine eu (w':=W1.drew.alloc (.cells #[.int .i64 kind,.string x,.int .i64 (C:Int),.int .i64 owner] 49)) rfl (by go_simp;rfl) ?_ ?_
 ·exact fun _=>⟨by go_simp,by go_simp,by go_simp⟩
 simp only[Act.put,sA,sZ,sC];refine jR rfl (fG _ (.tmp 15) (.tmp 25) _ rfl E.base 49 i0 _ 4 40 Tryz.underlying27 ab aq ar au rfl (.slice V.dA D V.dc) D (q.ds.flatMap bQ) rfl (qx.out.drew.alloc _) ⟨W1.heap.size,0,none⟩ 1 1 (bQ ⟨kind,x,(C:Int),owner⟩) rfl rfl (y5 _ _ _ _ _ _ (by go_simp) (by go_simp) (by go_simp) (by go_simp)) (by simp[bQ,Value.oneCell']) (by simp only[maxLen];omega) (by omega) (by simp;omega) ?_);intro v3 j F B rF;obtain⟨A3,c3,an,-,-⟩:=F.shape;subst an;have av:=B.size;simp at av
 have q1:j.cell? ⟨E.rp,0,none⟩=some (.slice V.dA D V.dc):=by
  rw[B.cell_far _ (by simp;omega) (fun J=>fw.out J.symm)];go_simp
 have q2:j.cell? ⟨w.heap.size,1,none⟩=some (.string x):=by
  rw[B.cell_far _ (by simp;omega) (fun J=>yB.out J.symm)];go_simp
 have q3:j.cell? ⟨E.rp,4,none⟩=some (.int .i64 (C:Int)):=by
  rw[B.cell_far _ (by simp;omega) (fun J=>fw.out J.symm)];go_simp
 have a1:=ah.grown (ah.alloc (ah.drew H1.out.blk) (.cells #[.int .i64 kind,.string x,.int .i64 (C:Int),.int .i64 owner] 49)) B (fun J=>fw.out J.symm);have q5:=a1.frozen 0;obtain⟨g, iV⟩:=ag (j.setCell ⟨E.rp,0,none⟩ (.slice A3 (D+1) c3))
 have W:Hid (dV E G mk { q with ds:=q.ds++[⟨kind,x,(C:Int),owner⟩] } { V with dA:=A3,dc:=c3 } g/\KW E w g):=kH (by
  have zg:Below W1.heap.size W1 (W1.drew.alloc (.cells #[.int .i64 kind,.string x,.int .i64 (C:Int),.int .i64 owner] 49)):=((Below.refl _ _).drew).alloc (ab9 _) _;have h2:=H1.out.below zg;have hp:=h2.decl_ ⟨kind,x,(C:Int),owner⟩ (A:=A3) (c:=c3) (by rw[U.out,List.flatMap_append];simpa using F) (by rw[U.out];exact B);have hk:=TV (E:=E) (w':=j) h2.ds (.inl rfl) (by rw[U.out];exact B) 0 (.slice A3 (D+1) c3);rw[U.out,iV]at hp;rw[iV]at hk
  exact⟨hp,(KW.of_below (f.out.trans (zg.mono f.out.size))).trans hk⟩)
 clear a1 F B rF;refine⟨fun _=>⟨q1,q2,q3⟩,?_⟩;iterate 3(simp only[Act.put,sA,sZ,sC];refine eu (w':=j) rfl (by go_simp;rfl) (fun _=>⟨q1,q2,q3⟩) ?_)
 simp only[Act.put,sA,sZ,sC];refine gH (w':=j.setCell ⟨E.rp,0,none⟩ (.slice A3 (D+1) c3)) rfl (by go_simp) (by simp) ?_;refine gp ?_;simp only[Act.put];rw[iV];have Q:({ q with ds:=q.ds++[⟨kind,x,(C:Int),owner⟩] }:RW).ds.length=D+1:=by show(q.ds++[_]).length=_;rw[acm,U.out];rfl
 obtain⟨K, ja⟩:=ag g.drew;have v:Below g.heap.size g K:=by rw[<- ja];exact(Below.refl _ _).drew
 have LB:=W.out.1.below v;obtain⟨bu,ou,hA,ax,iR,ay,S⟩:=LB.yH C (by show C<q.uses.length;rw[BJ.out];exact hU);obtain⟨u0,iR⟩:=iR;have CV:=W.out.1.blk;have b:=LB.blk;rw[Q]at CV b;have e0:g.cell? ⟨E.rp,0,none⟩=some (.slice A3 (D+1) c3):=CV.cell 0;have J:K.cell? ⟨E.rp,1,none⟩=some (.slice E.uA nu E.uc):=by have:=b.cell 1;rw[BJ.out]at this;exact this
 have e4:K.cell? ⟨E.rp,4,none⟩=some (.int .i64 (C:Int)):=by have:=b.cell 4;rw[sJ.out]at this;exact this
 rw[hA]at J;have az:=CV.lt;have aE:=b.lt
 have HR:Hid (∃V',dV E G mk q' V' (K.setCell ⟨bu,ou+C,none⟩ (.int .i64 (D:Int)))/\KW E w (K.setCell ⟨bu,ou+C,none⟩ (.int .i64 (D:Int)))):=kH (by
  obtain⟨h5,h6⟩:=S (D:Int);rw[HP.out,U.out]
  exact⟨_,h5,(W.out.2.trans (KW.of_below v)).trans h6⟩)
 have b3:IntKind.i64.wrap (((D+1:Nat):Int) - 1)=(D:Int):=by rw[IntWalk.i64_in _ (by omega)];omega
 have ad:IntKind.i64.wrap ((D:Int)+1 - 1)=(D:Int):=by rw[IntWalk.i64_in _ (by omega)];omega
 have r:¬((C:Int)<0):=by omega
 have b2:(C:Int)<(nu:Int):=by omega
 clear S iV CV b Q LB v;go_wp2_with fail
 refine dF (fun w'=>w'.cell? ⟨E.rp,1,none⟩=some (.slice (some ⟨bu,ou,none⟩) nu E.uc)/\w'.cell? ⟨E.rp,4,none⟩=some (.int .i64 (C:Int))) [11] [true,true,true,true,true,true,true,true,true,true,false,false] (by kernel_rfl) (by kernel_rfl) rfl (by kernel_rfl) ?_;rw[ja];have Y:K.cell? ⟨E.rp,1,none⟩=some (.slice (some ⟨bu,ou,none⟩) nu E.uc)/\K.cell? ⟨E.rp,4,none⟩=some (.int .i64 (C:Int)):=⟨J,e4⟩
 iterate 10(refine eD rfl Y (by intro w' Z;obtain⟨af,al⟩:=Z;go_simp;rfl) ?_;simp only[Act.put,sA,sZ,sC])
 refine eu (w':=K) rfl (by go_simp;rfl) (fun _=>Y) ?_;simp only[Act.put,sA,sZ,sC];refine gH (w':=K.setCell ⟨bu,ou+C,none⟩ (.int .i64 (D:Int))) rfl (by go_simp) (by simp) ?_;refine gp ?_;simp only[Act.put];clear ja Y;go_wp2_with fail
 go_ret
 exact⟨rfl,HR.out⟩
theorem wY{B:Nat}{w w':World}{A:Option Nat}(C:w.grownBy w' A)(D:B<=w.heap.size)(F:∀k,A=some k->B<=k):Below B w w':=((ak.refl (fun g=>B<=g) w).grown C (fun k E=>.inl (F k E))).toBelow D (fun _ C=>C)
theorem Xr{G:List Dc}{q:RW}{s:List Nat}{t:ae}{c o:Int}(h:((nR q.ds s t.text).isSome || (nS G false t.text).isSome)=true):fB G q s t c o=(rC q 9 t,s):=by
 unfold fB;rw[if_pos h]
theorem Xt{G:List Dc}{q:RW}{s:List Nat}{t:ae}{c o:Int}(h:((nR q.ds s t.text).isSome || (nS G false t.text).isSome)=false):fB G q s t c o=(qJ q c t o,s++[q.ds.length]):=by
 unfold fB;rw[h,if_neg (by simp)]
theorem zW(s:List Nat):(s.flatMap gU).length=s.length:=by
 induction s with
 | nil=>rfl
 | cons a s ih=>rw[List.flatMap_cons,acm,ih];simp[gU];omega
theorem Qs{s:List Nat}{j:Nat}{u:Value}(h:(s.flatMap gU)[j]? =some u):∃i,s[j]? =some i/\u= .int .i64 (i:Int):=by
 induction s generalizing j with
 | nil=>simp at h
 | cons a s ih=>
  rw[List.flatMap_cons]at h
  cases j with
  | zero=>
   simp[gU]at h;exact⟨a,rfl,h.symm⟩
  | succ j=>
   rw[ack (by simp[gU])]at h;obtain⟨i,A,B⟩:=ih (j:=j) (by simpa [gU] using h);exact⟨i,by simpa using A,B⟩
theorem gG.news{w:World}{I:Option Nat}{A:Option Addr}{s:List Nat}(E:gG w I A s):∀j u,(s.flatMap gU)[j]? =some u->∃a,A=some a/\w.cell? (a.add j)=some u:=fun j u F=>by
 obtain⟨i,B,rfl⟩:=Qs F;obtain⟨b,H,J,C,-,-,D⟩:=E j i B;exact⟨_,C,by simpa [Addr.add_lit] using D⟩
theorem GA{s:List Nat}:∀u∈s.flatMap gU,u.oneCell'=true:=fun u A=>by
 obtain⟨i,-,h⟩:=List.mem_flatMap.1 A;simp[gU]at h;subst h;rfl
theorem uO(E:RE)(G:List Dc)(mk:Int)(q:RW)(V:RQ)(w:World)(h:dV E G mk q V w)(hN:q.ds.length<=1000000)(hL:q.list.length<=1000000)(hG:G.length<=1000000)(hU:q.num<q.uses.length)(T:E.base<=w.heap.size)
 (A:Option Addr) (n c:Nat) (s:List Nat) (hs:gG w (E.uA.map (·.block)) A s) (ar:s.length=n) (bd:n<=c) (hn:n<=1000000) (b0:∀i∈s,i<q.ds.length) (kind owner:Int) (t:ae) (At:Option Addr) (ct:Nat):
 Calls Tryz.prog 161 #[.pointer (some ⟨E.rp,0,none⟩),.slice A n c,aO t At ct,.int .i64 kind,.int .i64 owner] w fun e w'=> ∃Q O R,e= .returned (.slice Q O R)/\(fB G q s t kind owner).2.length=O/\O<=R/\gG w' (E.uA.map (·.block)) Q (fB G q s t kind owner).2 /\
  ∃V',dV E G mk (fB G q s t kind owner).1 V' w'/\KW E w w':=by
 obtain⟨i0,az,b2,b3,b4⟩:=info_parts mH;obtain⟨k,x,a,z,m,-,hx,-,-,-,hv⟩:=aW t At ct;obtain⟨cc, U⟩:=ag (((nR q.ds s t.text).isSome || (nS G false t.text).isSome));have aE:=fun W P=>IV E G mk q V W (h.below P) (E.uA.map (·.block)) A n c s (hs.below P) ar b0 x hn
 have ay:=h.gl.rowAt (cells:=bQ) (l:=G) rfl rfl (fun _ _=>rfl) rfl;have iF:=fun(W:World) (P:Below w.heap.size w W)=>BU E.gA G.length E.gc G false x W ((ay.below P (ab9 _)).mono P.size) rfl hG
 have ui:=fun(W:World) (P:Below w.heap.size w W)=>BS E G mk q V W (h.below P) hL (aca T P.size) 9 t At ct
 have EL:=fun(W:World) (P:Below w.heap.size w W)=>Gw E G mk q V W (h.below P) hN hU (aca T P.size) kind owner t At ct
 rw[hv]at ui EL⊢;rw[hx]at U;have rW:=kH aE;have zF:=kH iF;have yR:=kH ui;have Fp:=kH EL;have H:=kH h;have HS:=kH hs;have au:=kH U;have HX:=kH hx;have jK:=kH ar;have L:Hid (cc=true->fB G q s t kind owner=(rC q 9 t,s)):=kH fun e=>Xr (by rw[hx,U,e])
 have K:Hid (cc=false->fB G q s t kind owner=(qJ q kind t owner,s++[q.ds.length])):=kH fun e=>Xt (by rw[hx,U,e])
 obtain⟨lg, wR⟩:=ag G.length;rw[wR]at zF;have b8:=kH wR;clear aE ay iF ui EL hv U h hs hx ar b0 wR hG hL;go_in
 go_wp2_with fail
 generalize ad:w.alloc (.cells #[.int .i64 k,.string x,.int .i64 a,.int .i64 z,.slice At m ct] 24)=W1
 have aw:Below w.heap.size w W1:=by rw[<- ad];exact ai _ _
 have av:ah W1 w.heap.size 24 #[.int .i64 k,.string x,.int .i64 a,.int .i64 z,.slice At m ct]:=by rw[<- ad];exact ah.new w _ _
 have I:=kH aw;have Z:=kH av;clear ad aw av;go_upto_region 1 with fail
 go_cut [27] (fun bj wx=>bj= .bool cc/\Below W1.heap.size W1 wx)
 case first=>
  have fE:∀W,Below W1.heap.size W1 W->W.cell? ⟨w.heap.size,1,none⟩=some (.string x)/\W.cell? ⟨E.rp,3,none⟩=some (.slice E.gA lg E.gc):=fun W P=>by
   have hr:=(H.out.below (I.out.trans (P.mono I.out.size))).blk.cell 3;rw[b8.out]at hr;exact⟨(Z.out.below P Z.out.lt).cell 1,hr⟩
  have bP:=kH fE;have J:Below W1.heap.size W1 W1.drew:=(Below.refl _ _).drew;have y:=bP.out _ J;clear fE
  cases hl:nR q.ds s x with
  | some j=>
   have X:xW q.ds s x=(j:Int):=by unfold xW;rw[hl]
   have r:cc=true:=by rw[<- au.out,hl];rfl
   subst r;have a8:=kH X;clear hl X;refine bF (fun w'=>w'.cell? ⟨w.heap.size,1,none⟩=some (.string x)/\w'.cell? ⟨E.rp,3,none⟩=some (.slice E.gA lg E.gc)) [] [true,true,true,true,false,true,true,true,true,true,true,true,true,true,true,true] (by kernel_rfl) (by kernel_rfl) rfl (by kernel_rfl) ?_;iterate 4((first|(refine dU (by rfl) y ?_)|(refine bC (by rfl) y (by intro w' C;obtain⟨f,b⟩:=C;go_simp;rfl) ?_));simp only[Act.put,sA,sZ,sC])
   refine dG (by rfl) (by go_simp) ((rW.out _ (I.out.trans (J.mono I.out.size))).mono ?_);rintro e4 w4 ⟨rfl,al⟩;rw[a8.out];have gB:Below W1.heap.size W1 w4:=J.trans (al.mono J.size);have Y:=bP.out _ gB;have bk:decide ((0:Int)<=(j:Int))=true:=decide_eq_true (by omega);refine⟨_,rfl,fun _=>Y,?_⟩;simp only[Act.put,sA,sZ,sC];refine bC (v:=.bool true) (by rfl) Y (by intro w' C;go_simp) ?_;iterate 10(simp only[Act.put,sA,sZ,sC];(first|(refine dU (by rfl) Y ?_)|(refine bC (by rfl) Y (by intro w' C;obtain⟨f,b⟩:=C;go_simp;rfl) ?_)))
   simp only[Act.put,sA,sZ,sC];refine fT ?_;go_wp2_with fail
   go_meet
   exact⟨rfl,gB⟩
  | none=>
   have X:xW q.ds s x= -1:=by unfold xW;rw[hl]
   have r:(nS G false x).isSome=cc:=by rw[<- au.out,hl];rfl
   have bb:decide ((0:Int)<=uF G false x)=cc:=by
    rw[<- r];unfold uF
    cases nS G false x with
    | none=>rfl
    | some j=>exact decide_eq_true (by show(0:Int)<=(j:Int);omega)
   obtain⟨fx, ab⟩:=ag (uF G false x);rw[ab]at bb;have b6:=kH ab;have a8:=kH X;have ba:(fx >=0)=(0<=fx):=rfl;clear hl X r ab;refine bF (fun w'=>w'.cell? ⟨w.heap.size,1,none⟩=some (.string x)/\w'.cell? ⟨E.rp,3,none⟩=some (.slice E.gA lg E.gc)) [] [true,true,true,true,false,true,true,true,true,true,true,true,true,false,true,true] (by kernel_rfl) (by kernel_rfl) rfl (by kernel_rfl) ?_;iterate 4((first|(refine dU (by rfl) y ?_)|(refine bC (by rfl) y (by intro w' C;obtain⟨f,b⟩:=C;go_simp;rfl) ?_));simp only[Act.put,sA,sZ,sC])
   refine dG (by rfl) (by go_simp) ((rW.out _ (I.out.trans (J.mono I.out.size))).mono ?_);rintro e4 w4 ⟨rfl,al⟩;rw[a8.out];have gB:Below W1.heap.size W1 w4:=J.trans (al.mono J.size);have Y:=bP.out _ gB;refine⟨_,rfl,fun _=>Y,?_⟩;simp only[Act.put,sA,sZ,sC];refine bC (v:=.bool false) (by rfl) Y (by intro w' C;go_simp) ?_;simp only[Act.put,sA,sZ,sC];have bc:=World.block_lt_of_cell? _ _ Y.2;iterate 7((first|(refine dU (by rfl) Y ?_)|(refine bC (by rfl) Y (by intro w' C;obtain⟨f,b⟩:=C;go_simp;rfl) ?_));simp only[Act.put,sA,sZ,sC])
   refine dG (by rfl) (by go_simp) ((zF.out _ (I.out.trans (gB.mono I.out.size))).mono ?_);rintro e5 w5 ⟨rfl,b9⟩;rw[b6.out];have tC:Below W1.heap.size W1 w5:=gB.trans (b9.mono gB.size);have u:=bP.out _ tC;refine⟨_,rfl,fun _=>u,?_⟩;simp only[Act.put,sA,sZ,sC];refine bC (v:=.bool cc) (by rfl) u (by intro w' C;go_simp) ?_;simp only[Act.put,sA,sZ,sC];first|(refine dU (by rfl) u ?_)|(refine bC (by rfl) u (by intro w' C;obtain⟨f,b⟩:=C;go_simp;rfl) ?_)
   simp only[Act.put,sA,sZ,sC];refine fT ?_;go_wp2_with fail
   go_meet
   exact⟨rfl,tC⟩
 obtain⟨rfl,ao⟩:=hcut;have ax:Below w.heap.size w wc:=I.out.trans (ao.mono I.out.size);have lY:=kH ax;have Q7:=Z.out.below ao Z.out.lt;obtain⟨⟨t0,t1,t2,t3,t4⟩,-⟩:=Q7.five;have bl:=Q7.lt;clear ao ax Q7
 cases cc with
 | true=>
  have Sl:=kH (L.out rfl);have F6:=kH (yR.out _ lY.out);clear L K yR Fp;go_wp2_with fail
  refine F6.out.mono ?_;rintro e6 F ⟨rfl,V6,h6,k6⟩
  have bT:Hid (∃Q O R,Value.slice A n c= .slice Q O R/\(fB G q s t kind owner).2.length=O/\O<=R/\gG F (E.uA.map (·.block)) Q (fB G q s t kind owner).2/\∃V',dV E G mk (fB G q s t kind owner).1 V' F/\KW E w F):=kH (by
   rw[Sl.out]
   exact⟨A,n,c,rfl,jK.out,bd,(HS.out.below lY.out).kw k6 rfl ⟨_,(H.out.below lY.out).blk⟩,V6,h6,(KW.of_below lY.out).trans k6⟩)
  clear h6 k6 F6;go_wp2_with fail
  go_ret
  obtain⟨Q,O,R,h1,h2⟩:=bT.out;exact⟨Q,O,R,by rw[h1];rfl,h2⟩
 | false=>
  have Sl:=kH (K.out rfl);have ZL:=kH (Fp.out _ lY.out);clear L K yR Fp;go_wp2_with fail
  refine ZL.out.mono ?_;rintro e6 F ⟨rfl,V6,h6,k6⟩;have b5:KW E w F:=(KW.of_below lY.out).trans k6;have b1:gG F (E.uA.map (·.block)) A s:=(HS.out.below lY.out).kw k6 rfl ⟨_,(H.out.below lY.out).blk⟩;have b7:=kH b5;have R6:=kH b1;have H6:=kH h6;clear h6 k6 b5 b1 ZL;obtain⟨nd, aq⟩:=ag q.ds.length;have qQ:=kH aq;rw[aq];clear aq;obtain⟨W7, rQ⟩:=ag (F.alloc (.cells #[] 3));have jP:Below F.heap.size F W7:=by rw[<- rQ];exact ai _ _
  have NW:aG W7 F.heap.size 3 1 (.slice (some ⟨F.heap.size,0,none⟩) 0 0) 0 []:=by
   rw[<- rQ];exact aG.block (ab9 _) (ah.new F _ _) (Nat.zero_le _) rfl
  have sM:=kH jP;have Sb:=kH NW;clear jP NW;go_wp2_with (first|rw[rQ]|(at_builtin;refine Kr _ rfl (.tmp 37) (.tmp 38) _ rfl F.heap.size 3 i0 _ 1 8 Tryz.underlying142 az b2 b3 b4 rfl (by omega) (.slice (some ⟨F.heap.size,0,none⟩) 0 0) 0 [] rfl Sb.out A n c (s.flatMap gU) rfl (by rw[zW,jK.out];omega) (R6.out.below sM.out).news GA (by simp only[maxLen];omega) (by omega) sM.out.size ?_;intro v8 w8 B D af;rw[Nat.zero_add,List.nil_append]at B;obtain⟨A8,c8,Ce,-,-⟩:=B.shape;subst Ce;have lI:Below F.heap.size F w8:=sM.out.trans (wY D sM.out.size (fun k hk=>by cases hk;exact ab9 _));have a1:=kH B;have Cw:=kH lI;clear B D af lI rQ)|(at_builtin;refine dW _ rfl (.tmp 39) (.tmp 41) _ rfl F.heap.size 3 i0 _ 1 8 Tryz.underlying142 az b2 b3 b4 rfl (.slice A8 n c8) n (s.flatMap gU) rfl (a1.out.alloc _) ⟨w8.heap.size,0,none⟩ 1 1 [.int .i64 (nd:Int)] rfl rfl (lU _ _ _ (by go_simp)) (by simp[Value.oneCell']) (by simp only[maxLen];omega) (by omega) (by have:=Cw.out.size;simp;omega) ?_;intro v9 w9 B D af;obtain⟨A9,c9,bh,a7,-⟩:=B.shape;subst bh;have an:Below F.heap.size F (w8.alloc (.cells #[.int .i64 (nd:Int)] 3)):=Cw.out.trans ((ai _ _).mono Cw.out.size);have nZ:Below F.heap.size F w9:=an.trans (wY D an.size (fun k hk=>(a1.out.lt k hk).1));have S:=kH B;have F9:=kH nZ;have aa:=kH a7;clear B D af nZ an a7))
  have bT:Hid (∃Q O R,Value.slice A9 (n+1) c9= .slice Q O R/\(fB G q s t kind owner).2.length=O/\O<=R/\gG w9 (E.uA.map (·.block)) Q (fB G q s t kind owner).2/\∃V',dV E G mk (fB G q s t kind owner).1 V' w9/\KW E w w9):=kH (by
   rw[Sl.out];have a6:(s++[q.ds.length]).length=n+1:=by rw[acm,jK.out];rfl
   refine⟨A9,n+1,c9,rfl,a6,aa.out,gG.XV (base:=F.heap.size) (c:=c9) (n:=n+1) (by rw[List.flatMap_append,qQ.out];exact S.out) a6 (fun g hg e=>?_),V6,H6.out.below F9.out,b7.out.trans (KW.of_below F9.out)⟩;have h1:=(S.out.lt g hg).1;have h2:=(H6.out.us.lt g (by rw[Il];exact e)).2
   omega)
  go_ret
  obtain⟨Q,O,R,h1,h2⟩:=bT.out;exact⟨Q,O,R,by rw[h1];rfl,h2⟩
theorem Ay{G:List Dc}{f:Bool}{x:ByteArray}{d:Dc}(h:mD G f x=some d):∃j:Nat,nS G f x=some j/\G[j]? =some d/\uF G f x=(j:Int)/\j<G.length:=by
 unfold mD at h
 cases A:nS G f x with
 | none=>rw[A]at h;cases h
 | some j=>
  rw[A]at h;exact⟨j,rfl,h,by unfold uF;rw[A],(acg.1 h).1⟩
theorem WI{G:List Dc}{f:Bool}{x:ByteArray}(h:mD G f x=none):uF G f x= -1:=by
 unfold mD at h;unfold uF
 cases B:nS G f x with
 | none=>rfl
 | some j=>
  rw[B]at h
  have A:j<G.length:=by
   have:=List.findIdx?_eq_some_iff_findIdx_eq.1 B;exact this.1
  rw[show(some j).bind (fun k=>G[k]?)=G[j]? from rfl,ace A]at h;cases h
theorem CL(E:RE)(G:List Dc)(mk:Int)(q:RW)(V:RQ)(w:World)(h:dV E G mk q V w)(hN:q.ds.length<=1000000)(hL:q.list.length<=1000000)(hG:G.length<=1000000)(hU:q.num<q.uses.length)(D:E.base<=w.heap.size)
 (kind owner:Int) (t:ae) (X:Option Addr) (Y:Nat) (d:Dc) (b:mD G (decide (kind=1)) t.text=some d):
 Calls Tryz.prog 156 #[.pointer (some ⟨E.rp,0,none⟩),aO t X Y,.int .i64 kind,.int .i64 owner] w fun e w'=>e= .returned (.tuple #[])/\∃u,dV E G mk (eO G q t kind owner) u w'/\KW E w w':=by
 obtain⟨k,x,a,z,m,-,hx,-,-,-,hv⟩:=aW t X Y;rw[hx]at b;obtain⟨j,hj,YH,a1,ab⟩:=Ay b;have S:=h.gl.rowAt (cells:=bQ) (l:=G) rfl rfl (fun _ _=>rfl) rfl;have iF:=fun(W:World) (C:Below w.heap.size w W)=>BU E.gA G.length E.gc G (decide (kind=1)) x W ((S.below C (ab9 _)).mono C.size) rfl hG
 have ui:=fun(W:World) (C:Below w.heap.size w W)=>BS E G mk q V W (h.below C) hL (aca D C.size) 9 t X Y
 have EL:=fun(W:World) (C:Below w.heap.size w W)=>Gw E G mk q V W (h.below C) hN hU (aca D C.size) kind owner t X Y
 obtain⟨r,go,a6,a7,a8⟩:=S j d YH;obtain⟨O, A⟩:=ag d.node;have d2:w.cell? ⟨r,go+j*4+2,none⟩=some (.int .i64 O):=by rw[<- A];exact a8 2 _ rfl
 obtain⟨nm, K⟩:=ag q.num
 have L:Hid (O=(nm:Int)->eO G q t kind owner=qJ q kind t owner):=kH fun e=>by
  unfold eO;rw[hx,b,if_pos (by rw[K];exact congrArg some (A.trans e))]
 have U:Hid (¬O=(nm:Int)->eO G q t kind owner=rC q 9 t):=kH fun e=>by
  unfold eO;rw[hx,b,if_neg (by rw[K];exact fun e2=>e (A.symm.trans (Option.some.inj e2)))]
 rw[hv]at ui EL⊢;rw[a1]at iF;obtain⟨kb, T⟩:=ag (decide (kind=1));rw[T]at iF;have ad:(kind==1)=kb:=by rw[<- T,Bool.eq_iff_iff];simp
 obtain⟨lg, wR⟩:=ag G.length;rw[wR]at iF ab hG;have zF:=kH iF;have yR:=kH ui;have Fp:=kH EL;have H:=kH h;have v:=kH wR;have sJ:=kH K;have aa:=kH a6;have y:Hid (w.cell? ⟨r,go+j*4+2,none⟩=some (.int .i64 O)/\r<w.heap.size):=kH ⟨d2,a7⟩;clear S iF ui EL hv h hx wR b hj YH a1 a6 a7 a8 d2 A K T hL;go_in
 go_wp2_with fail
 generalize R:w.alloc (.cells #[.int .i64 k,.string x,.int .i64 a,.int .i64 z,.slice X m Y] 24)=W1
 have f:Below w.heap.size w W1:=by rw[<- R];exact ai _ _
 have g:ah W1 w.heap.size 24 #[.int .i64 k,.string x,.int .i64 a,.int .i64 z,.slice X m Y]:=by rw[<- R];exact ah.new w _ _
 have B:=kH f;have I:=kH g;clear R f g
 have fE:∀W,Below W1.heap.size W1 W->W.cell? ⟨w.heap.size,1,none⟩=some (.string x)/\W.cell? ⟨E.rp,3,none⟩=some (.slice E.gA lg E.gc):=fun W C=>by
  have hr:=(H.out.below (B.out.trans (C.mono B.out.size))).blk.cell 3;rw[v.out]at hr;exact⟨(I.out.below C I.out.lt).cell 1,hr⟩
 have bP:=kH fE;have F:Below W1.heap.size W1 W1.drew:=(Below.refl _ _).drew;have P:=bP.out _ F;clear fE;refine bF (fun w'=>w'.cell? ⟨w.heap.size,1,none⟩=some (.string x)/\w'.cell? ⟨E.rp,3,none⟩=some (.slice E.gA lg E.gc)) [] [true,true,true,true,true,true,true,true,false,true] (by kernel_rfl) (by kernel_rfl) rfl (by kernel_rfl) ?_;iterate 8((first|(refine dU (by rfl) P ?_)|(refine bC (by rfl) P (by intro w' Q;obtain⟨af,al⟩:=Q;go_simp;rfl) ?_));simp only[Act.put,sA,sZ,sC])
 refine dG (by rfl) (by go_simp) ((zF.out _ (B.out.trans (F.mono B.out.size))).mono ?_);rintro e4 w4 ⟨rfl,c⟩;have gB:Below W1.heap.size W1 w4:=F.trans (c.mono F.size);have mE:=bP.out _ gB;refine⟨_,rfl,fun _=>mE,?_⟩;simp only[Act.put,sA,sZ,sC];first|(refine dU (by rfl) mE ?_)|(refine bC (by rfl) mE (by intro w' Q;obtain⟨af,al⟩:=Q;go_simp;rfl) ?_)
 simp only[Act.put,sA,sZ,sC];refine fT ?_;have J:Below w.heap.size w w4:=B.out.trans (gB.mono B.out.size);have lY:=kH J;have Q7:=I.out.below gB I.out.lt;obtain⟨⟨t0,t1,t2,t3,t4⟩,-⟩:=Q7.five;have ar:=Q7.lt;have Z:=(H.out.below J).blk;rw[v.out,sJ.out,aa.out]at Z;have r3:=Z.cell 3;have r4:=Z.cell 4;have aq:=Z.lt;have d2:w4.cell? ⟨r,go+j*4+2,none⟩=some (.int .i64 O):=(J.cell (p:=⟨r,_,none⟩) y.out.2).trans y.out.1;have an:¬((j:Int)<0):=by omega
 have ao:(j:Int)<(lg:Int):=by omega
 clear c gB mE P F J Q7 Z zF;by_cases A:O=(nm:Int)
 ·subst A
  have Sl:=kH (L.out rfl);have ZL:=kH (fun nq=>Fp.out (w4.drewN nq) (aL lY.out nq));clear L U yR Fp;go_wp2_with fail
  go_quiet (fail)
  go_wp2_with fail
  refine(ZL.out _).mono ?_;rintro e6 w6 ⟨rfl,V6,n,k6⟩
  have bT:Hid (∃u,dV E G mk (eO G q t kind owner) u w6/\KW E w w6):=kH (by
   rw[Sl.out]
   exact⟨V6,n,(KW.of_below (aL lY.out _)).trans k6⟩)
  clear n k6 ZL;go_wp2_with fail
  go_end0
  exact⟨rfl,bT.out⟩
 have Sl:=kH (U.out A);have oM:(O !=(nm:Int))=true:=by simpa using A
 have F6:=kH (fun nq=>yR.out (w4.drewN nq) (aL lY.out nq));clear L U A Fp yR;go_wp2_with fail
 go_quiet (fail)
 go_wp2_with fail
 refine(F6.out _).mono ?_;rintro e6 w6 ⟨rfl,V6,n,k6⟩
 have bT:Hid (∃u,dV E G mk (eO G q t kind owner) u w6/\KW E w w6):=kH (by
  rw[Sl.out]
  exact⟨V6,n,(KW.of_below (aL lY.out _)).trans k6⟩)
 clear n k6 F6;go_wp2_with fail
 try simp only[Exit.inBlock,Exit.then]
 refine bodyPost_ret (results_none rfl _ _ _) rfl ?_;exact⟨rfl,bT.out⟩
theorem Es(E:RE)(G:List Dc)(mk:Int)(q:RW)(V:RQ)(w:World)(h:dV E G mk q V w)(g:q.list.length<=1000000)(v:q.num<q.uses.length)(K:E.base<=w.heap.size)
 (t:ae) (P:Option Addr) (Q:Nat) (o:Option Int) (y:Int) (r:∀k,o=some k->k=y/\0<=k/\k<=1000000) (L:o=none->y= -1):
 Calls Tryz.prog 159 #[.pointer (some ⟨E.rp,0,none⟩),aO t P Q,.int .i64 y] w fun e w'=>e= .returned (.tuple #[])/\∃S,dV E G mk (qE q t o) S w'/\KW E w w':=by
 obtain⟨k,x,a,z,m,-,-,-,-,-,X⟩:=aW t P Q;have A:Below w.heap.size w (w.alloc (.cells #[.int .i64 k,.string x,.int .i64 a,.int .i64 z,.slice P m Q] 24)):=ai _ _
 cases o with
 | none=>
  obtain rfl:=L rfl;have u:=BS E G mk q V (w.alloc (.cells #[.int .i64 k,.string x,.int .i64 a,.int .i64 z,.slice P m Q] 24)) (h.below A) g (aca K A.size) 8 t P Q;rw[X]at u⊢;have R:=kH A;have l:=kH u;clear u A X h r L;go_in
  go_wp2_with fail
  refine l.out.mono ?_;rintro e b ⟨rfl,V2,j,c⟩;have HE:Hid (∃S,dV E G mk (qE q t none) S b/\KW E w b):=kH ⟨V2,j,(KW.of_below R.out).trans c⟩;clear j c l R;go_wp2_with fail
  try simp only[Exit.inBlock,Exit.then]
  refine bodyPost_ret (results_none rfl _ _ _) rfl ?_;exact⟨rfl,HE.out⟩
 | some y'=>
  obtain⟨rfl,an,ao⟩:=r y' rfl;rw[X];obtain⟨W1, U⟩:=ag (w.alloc (.cells #[.int .i64 k,.string x,.int .i64 a,.int .i64 z,.slice P m Q] 24));rw[U]at A;obtain⟨H, n⟩:=ag W1.drew;have J:Below w.heap.size w H:=by rw[<- n];exact A.drew
  have Y:=h.below J;obtain⟨D, C⟩:=ag q.num;rw[C]at v;obtain⟨T,W,hA,a1,f,a6,F⟩:=Y.yH D v;obtain⟨u0,f⟩:=f;obtain⟨nu, O⟩:=ag q.uses.length;rw[O]at v;have B:=Y.blk;rw[O,C,hA]at B;have c1:=B.cell 1;have c4:=B.cell 4;have a7:=B.lt
  have HR:Hid (∃S,dV E G mk (qE q t (some y')) S (H.setCell ⟨T,W+D,none⟩ (.int .i64 (-2 - y')))/\KW E w (H.setCell ⟨T,W+D,none⟩ (.int .i64 (-2 - y')))):=kH (by
   obtain⟨h5,h6⟩:=F (-2 - y');refine⟨V,?_,(KW.of_below J).trans h6⟩;have e:qE q t (some y')= { q with uses:=q.uses.set D (-2 - y') }:=by rw[<- C];rfl
   rw[e]
   exact h5)
  have ab:¬y'<0:=by omega
  have al:IntKind.i64.wrap (-2 - y')= -2 - y':=IntWalk.i64_in _ (by omega);have a8:¬((D:Int)<0):=by omega
  have aa:(D:Int)<(nu:Int):=by omega
  clear F X h Y O A J B r L C g;go_in
  go_wp2_with (rw[U])
  refine dF (fun w'=>w'.cell? ⟨E.rp,1,none⟩=some (.slice (some ⟨T,W,none⟩) nu E.uc)/\w'.cell? ⟨E.rp,4,none⟩=some (.int .i64 (D:Int))) [12] [true,true,true,true,true,true,true,true,true,true,true,false,false] (by kernel_rfl) (by kernel_rfl) rfl (by kernel_rfl) ?_;rw[n];have I:H.cell? ⟨E.rp,1,none⟩=some (.slice (some ⟨T,W,none⟩) nu E.uc)/\H.cell? ⟨E.rp,4,none⟩=some (.int .i64 (D:Int)):=⟨c1,c4⟩
  iterate 11(refine eD rfl I (by intro w' Z;obtain⟨ad,af⟩:=Z;go_simp;rfl) ?_;simp only[Act.put,sA,sZ,sC])
  refine eu (w':=H) rfl (by go_simp;rfl) (fun _=>I) ?_;simp only[Act.put,sA,sZ,sC];refine gH (w':=H.setCell ⟨T,W+D,none⟩ (.int .i64 (-2 - y'))) rfl (by go_simp) (by simp) ?_;refine gp ?_;simp only[Act.put];clear n I;go_wp2_with fail
  go_end0
  exact⟨rfl,HR.out⟩
def uQ(o:Option Int):Int:=match o with|some n=>n|none=> -1
theorem Aq(E:RE)(G:List Dc)(mk:Int)(q:RW)(V:RQ)(w:World)(h:dV E G mk q V w)(hG:G.length<=1000000)(a b:Int)(x:ByteArray):
 Calls Tryz.prog 160 #[.pointer (some ⟨E.rp,0,none⟩),.int .i64 a,.int .i64 b,.string x] w fun e w'=>e= .returned (.int .i64 (uQ (fq G a b x)))/\Below w.heap.size w w':=by
 have J:=h.gl.rowAt (cells:=bQ) (l:=G) rfl rfl (fun _ _=>rfl) rfl;have K:=BU E.gA G.length E.gc G (decide (a=1)) x w J rfl hG;have C:=h.blk;obtain⟨lg, y⟩:=ag G.length;obtain⟨kb, H⟩:=ag (decide (a=1));rw[H]at K;rw[y]at K C;have g:(a==1)=kb:=by rw[<- H,Bool.eq_iff_iff];simp
 cases W:mD G (decide (a=1)) x with
 | none=>
  have D:=WI W;rw[H]at D;rw[D]at K;have B:uQ (fq G a b x)= -1:=by unfold fq;rw[W];rfl
  have P:=kH B;have Z:=kH K;have z:=C.cell 3;have U:=C.lt;clear h J K C y H hG W D B;go_in
  go_wp2_with fail
  refine Z.out.mono ?_;rintro t n ⟨rfl,A⟩;go_wp2_with fail
  go_ret
  rw[P.out];exact⟨rfl,A⟩
 | some d=>
  obtain⟨j,hj,m,D,r⟩:=Ay W;rw[H]at D;rw[D]at K;rw[y]at r hG;obtain⟨L,O,S,F,T⟩:=J j d m;obtain⟨k, R⟩:=ag d.node;obtain⟨I, Q⟩:=ag d.kind;have v:w.cell? ⟨L,O+j*4,none⟩=some (.int .i64 I):=by rw[<- Q];simpa using T 0 _ rfl
  have u:w.cell? ⟨L,O+j*4+2,none⟩=some (.int .i64 k):=by rw[<- R];exact T 2 _ rfl
  have B:uQ (fq G a b x)=if I=a\/I=b then k else -1:=by
   unfold fq;rw[W];show uQ (if d.kind=a\/d.kind=b then some d.node else none)=_;rw[Q,R];split<;>rfl
  rw[S]at C;rw[S]at K;have z:=C.cell 3;have U:=C.lt;have Z:=kH K;have a7:¬((j:Int)<0):=by omega
  have a8:(j:Int)<(lg:Int):=by omega
  clear h J K C y H W hj m D S T R Q;by_cases X:I=a
  ·have P:=kH (B.trans (if_pos (.inl X)))
   clear B;subst X;go_in
   go_wp2_with fail
   refine Z.out.mono ?_;rintro t n ⟨rfl,A⟩;have s3:=(A.cell (p:=⟨E.rp,3,none⟩) U).trans z;have c:=(A.cell (p:=⟨L,O+j*4,none⟩) F).trans v;have s2:=(A.cell (p:=⟨L,O+j*4+2,none⟩) F).trans u;have sl:=Nat.lt_of_lt_of_le U A.size;go_wp2_with fail
   go_ret
   rw[P.out];exact⟨rfl,A⟩
  have a1:(I !=a)=true:=by simpa using X
  by_cases Y:I=b
  ·have P:=kH (B.trans (if_pos (.inr Y)))
   clear B;subst Y;go_in
   go_wp2_with fail
   refine Z.out.mono ?_;rintro t n ⟨rfl,A⟩;have s3:=(A.cell (p:=⟨E.rp,3,none⟩) U).trans z;have c:=(A.cell (p:=⟨L,O+j*4,none⟩) F).trans v;have s2:=(A.cell (p:=⟨L,O+j*4+2,none⟩) F).trans u;have sl:=Nat.lt_of_lt_of_le U A.size;go_wp2_with fail
   go_ret
   rw[P.out];exact⟨rfl,A⟩
  have a6:(I !=b)=true:=by simpa using Y
  have f:¬(I=a\/I=b):=fun e=>e.elim X Y
  have P:=kH (B.trans (if_neg f));clear X Y f B;go_in
  go_wp2_with fail
  refine Z.out.mono ?_;rintro t n ⟨rfl,A⟩;have s3:=(A.cell (p:=⟨E.rp,3,none⟩) U).trans z;have c:=(A.cell (p:=⟨L,O+j*4,none⟩) F).trans v;have s2:=(A.cell (p:=⟨L,O+j*4+2,none⟩) F).trans u;have sl:=Nat.lt_of_lt_of_le U A.size;go_wp2_with fail
  go_ret
  rw[P.out];exact⟨rfl,A⟩
end Go.Proofs.YtoepemlnlpamlaaGreat
namespace Go.Proofs.YtoepemlnlpamlaaGreat
structure sI (a b:RW) (m:Nat):Prop where
 ds1:a.ds.length<=b.ds.length
 Oe:b.ds.length<=a.ds.length+m
 li:b.list.length<=a.list.length+m
 us:b.uses.length=a.uses.length
theorem sI.refl(a:RW):sI a a 0:=⟨ab9 _,ab9 _,ab9 _,rfl⟩
theorem sI.trans{a b c:RW}{m n k:Nat}(h:sI a b m)(g:sI b c n)(A:m+n<=k):sI a c k:=
 ⟨aca h.ds1 g.ds1,by have:=h.Oe;have:=g.Oe;omega,by have:=h.li;have:=g.li;omega,g.us.trans h.us⟩
def lK(s:List Nat)(q:RW):Prop:=s.length<=q.ds.length/\∀i∈s,i<q.ds.length
theorem lK.mono{s:List Nat}{a b:RW}{m:Nat}(h:lK s a)(k:sI a b m):lK s b:=⟨aca h.1 k.ds1,fun i A=>Nat.lt_of_lt_of_le (h.2 i A) k.ds1⟩
theorem Ew(q:RW)(c:Int)(t:ae):sI q (rC q c t) 1:=⟨ab9 _,Nat.le_succ _,by simp[rC],rfl⟩
theorem Ur(q:RW)(c:Int)(t:ae)(o:Int):sI q (qJ q c t o) 1:=⟨by simp[qJ],by simp[qJ],Nat.le_succ _,by simp[qJ]⟩
theorem TH(q:RW)(i:Nat)(v:Int):sI q { q with uses:=q.uses.set i v } 1:=⟨ab9 _,Nat.le_succ _,Nat.le_succ _,by simp⟩
theorem use_stp(q:RW)(t:ae)(o:Option Int):sI q (qE q t o) 1:=by
 cases o with
 | none=>exact Ew _ _ _
 | some n=>exact TH _ _ _
theorem var_stp(G:List Dc)(q:RW)(s:List Nat)(t:ae)(c o:Int):sI q (fB G q s t c o).1 1:=by
 unfold fB;split
 ·exact Ew _ _ _
 exact Ur _ _ _ _
theorem WE(G:List Dc)(q:RW)(t:ae)(c o:Int):sI q (eO G q t c o) 1:=by
 unfold eO;split
 ·exact Ur _ _ _ _
 exact Ew _ _ _
theorem aaw(q:RW)(s:List Nat)(t:ae):sI q (wL q s t) 1:=by
 unfold wL;split
 ·exact TH _ _ _
 exact Ew _ _ _
theorem use_num(q:RW)(t:ae)(o:Option Int):(qE q t o).num=q.num:=by cases o<;>rfl
theorem var_num(G:List Dc)(q:RW)(s:List Nat)(t:ae)(c o:Int):(fB G q s t c o).1.num=q.num:=by unfold fB;split<;>rfl
theorem WG(G:List Dc)(q:RW)(t:ae)(c o:Int):(eO G q t c o).num=q.num:=by unfold eO;split<;>rfl
theorem aax(q:RW)(s:List Nat)(t:ae):(wL q s t).num=q.num:=by unfold wL;split<;>rfl
theorem Br(G:List Dc)(q:RW)(s:List Nat)(t:ae)(o:Int):sI q (j3 G q s t o) 1/\(j3 G q s t o).num=q.num:=by
 unfold j3;repeat (first|exact⟨WE _ _ _ _ _,WG _ _ _ _ _⟩|exact⟨aaw _ _ _,aax _ _ _⟩|exact⟨use_stp _ _ _,use_num _ _ _⟩|exact⟨var_stp _ _ _ _ _ _,var_num _ _ _ _ _ _⟩|exact⟨(sI.refl _).trans (sI.refl _) (Nat.le_succ _),rfl⟩|split)
theorem JM(mk:Int)(q:RW)(s:List Nat):sI q (cO mk q s) 0:=by
 unfold cO;split<;>exact⟨ab9 _,ab9 _,ab9 _,rfl⟩
theorem Ku{G:List Dc}{q:RW}{s:List Nat}(t:ae)(c o:Int)(h:lK s q):lK (fB G q s t c o).2 (fB G q s t c o).1:=by
 unfold fB;split
 ·exact h
 refine⟨by have:=h.1;simp[qJ];omega,fun i A=>?_⟩;rcases List.mem_append.1 A with A|A
 ·have:=h.2 i A
  simp[qJ];omega
 rw[List.mem_singleton]at A;simp[qJ];omega
theorem Fe{G:List Dc}{q:RW}{s:List Nat}(t:ae)(o:Int)(h:lK s q):lK (qL G q s t) (j3 G q s t o):=by
 by_cases B:t.kind=7\/t.kind=8\/t.kind=12\/t.kind=16
 ·obtain⟨C,D,A⟩:=qW G q s t o
  rcases B with k|k|k|k
  ·rw[mZ G q s t 3 o (.inl k),A (.inl k)];exact Ku t 3 o h
  ·rw[mZ G q s t 3 o (.inr (.inl k)),A (.inr k)];exact Ku t 3 o h
  ·rw[mZ G q s t 4 o (.inr (.inr (.inl k))),C k];exact Ku t 4 o h
  rw[mZ G q s t 5 o (.inr (.inr (.inr k))),D k];exact Ku t 5 o h
 unfold qL;rw[if_neg B];exact h.mono (Br G q s t o).1
mutual
theorem AZ(G:List Dc)(mk:Int):∀(t:ae) (o:Int) (s:List Nat) (q:RW),sI q (bJ G mk t o s q).1 (aB t)/\(bJ G mk t o s q).1.num+1=q.num+aB t/\(lK s q->lK (bJ G mk t o s q).2 (bJ G mk t o s q).1)
 | .node k x a e kids,o,s,q=>by
  rw[bJ];try simp only
  have A:=JM mk q s;have B:=Br G (cO mk q s) s (.node k x a e kids) o;obtain⟨D,F,H⟩:=Nb G mk k (qL G (cO mk q s) s (.node k x a e kids)) kids 0 (if k=3\/k=5 then(q.num:Int) else o) s (j3 G (cO mk q s) s (.node k x a e kids) o);refine⟨(A.trans B.1 (ab9 _)).trans D (by rw[aB];omega),by rw[F,B.2,mV,aB];omega,fun C=>?_⟩;have E:=Fe (G:=G) (q:=cO mk q s) (.node k x a e kids) o (C.mono A);split
  ·exact H E ((C.mono A).mono B.1)
  split
  ·exact E.mono D
  exact((C.mono A).mono B.1).mono D
theorem Nb(G:List Dc)(mk k:Int)(A:List Nat):∀(ts:List ae) (i:Nat) (o:Int) (s:List Nat) (q:RW),sI q (dP G mk k A ts i o s q).1 (aC ts)/\(dP G mk k A ts i o s q).1.num=q.num+aC ts/\(lK A q->lK s q->lK (dP G mk k A ts i o s q).2 (dP G mk k A ts i o s q).1)
 | [],i,o,s,q=>by
  rw[dP];exact⟨sI.refl _,rfl,fun _ h=>h⟩
 | t::ts,i,o,s,q=>by
  rw[dP];try simp only
  have C:sI q { q with num:=q.num+1 } 0:=⟨ab9 _,ab9 _,ab9 _,rfl⟩
  obtain⟨D,F,H⟩:=AZ G mk t o (if k=16/\i=2 then A else s) { q with num:=q.num+1 };obtain⟨I,J,K⟩:=Nb G mk k A ts (i+1) o (if k=5\/k=6\/k=11 then(bJ G mk t o (if k=16/\i=2 then A else s) { q with num:=q.num+1 }).2 else if k=16/\i=2 then A else s) (bJ G mk t o (if k=16/\i=2 then A else s) { q with num:=q.num+1 }).1;refine⟨(C.trans D (ab9 _)).trans I (by rw[aC];omega),?_,fun E L=>?_⟩
  ·have e:({ q with num:=q.num+1 }:RW).num=q.num+1:=rfl
   rw[e]at F;rw[J,aC];omega
  have B:lK (if k=16/\i=2 then A else s) { q with num:=q.num+1 }:=by
   split
   ·exact E.mono C
   exact L.mono C
  refine K ((E.mono C).mono D) ?_;split
  ·exact H B
  exact B.mono D
end
theorem abq{ts:List ae}{y:ae}(F:y∈ts)(D:y.kind=3\/y.kind=4\/y.kind=5):∃d,mD (gm ts 0 (-1) []) (decide (y.kind=4)) y.text=some d:=by
 rw[ET,EU,G5];obtain⟨a,b,rfl⟩:=List.append_of_mem F
 have B:∃d∈iG (a++y::b) 0 (-1),pD (decide (y.kind=4)) y.text d=true:=by
  rw[xm];rcases D with h|h|h
  ·exact⟨⟨0,y.text,((0+a.length:Nat):Int),-1⟩,List.mem_append_right _ (by rw[iG];rw[if_pos h];exact List.mem_append_left _ (List.mem_singleton.2 rfl)),by simp[pD,h]⟩
  ·exact⟨⟨1,y.text,((0+a.length:Nat):Int),u6 a 0 (-1)⟩,List.mem_append_right _ (by rw[iG];rw[if_neg (by omega),if_neg (by omega),if_pos h];exact List.mem_append_left _ (List.mem_singleton.2 rfl)),by simp[pD,h]⟩
  exact⟨⟨2,y.text,((0+a.length:Nat):Int),-1⟩,List.mem_append_right _ (by rw[iG];rw[if_neg (by omega),if_pos h];exact List.mem_append_left _ (List.mem_singleton.2 rfl)),by simp[pD,h]⟩
 obtain⟨d,C,E⟩:=B
 cases A:(iG (a++y::b) 0 (-1)).find? (pD (decide (y.kind=4)) y.text) with
 | none=>
  rw[List.find?_eq_none]at A;exact absurd E (by simpa using A d C)
 | some z=>exact⟨z,rfl⟩
theorem Kh(out:List Dc)(d:Dc):(vD out d).length<=out.length+1:=by
 unfold vD;split
 ·omega
 simp
theorem Ob:∀(ts:List ae) (i:Nat) (o:Int) (out:List Dc),(gm ts i o out).length<=out.length+ts.length
 | [],_,_,_=>by rw[gm];simp
 | t::ts,i,o,out=>by
  rw[gm];refine aca (Ob ts _ _ _) ?_;rw[aco];have:=Kh out ⟨0,t.text,i,-1⟩;have:=Kh out ⟨2,t.text,i,-1⟩;have:=Kh out ⟨1,t.text,i,o⟩;split
  ·omega
  split
  ·omega
  split<;>omega
def UB(M:Int)(q:RW):Prop:=∀v∈q.uses,-M - 2<=v/\v<=M
theorem UB.set{M:Int}{q:RW}(h:UB M q)(i:Nat){v:Int}(C: -M - 2<=v/\v<=M):∀u∈q.uses.set i v,-M - 2<=u/\u<=M:=fun u B=>by
 rcases List.mem_or_eq_of_mem_set B with A|rfl
 ·exact h u A
 exact C
theorem YR{G:List Dc}{a b:Int}{x:ByteArray}{n:Int}(h:fq G a b x=some n):∃d∈G,d.node=n:=by
 unfold fq at h
 cases B:mD G (decide (a=1)) x with
 | none=>rw[B]at h;cases h
 | some d=>
  rw[B]at h;obtain⟨j,-,C,-⟩:=Ay B;have A:(if d.kind=a\/d.kind=b then some d.node else none)=some n:=h;split at A
  ·exact⟨d,acn C,Option.some.inj A⟩
  cases A
section
variable {G:List Dc}{M:Int}(hG:∀d∈G,0<=d.node/\d.node<=M)
theorem Im{q:RW}(h:UB M q)(c:Int)(t:ae):UB M (rC q c t):=h
theorem Y6{q:RW}(h:UB M q)(A:(q.ds.length:Int)<=M)(c:Int)(t:ae)(o:Int):UB M (qJ q c t o):=h.set q.num ⟨by omega,A⟩
theorem var_ub{q:RW}(h:UB M q)(A:(q.ds.length:Int)<=M)(s:List Nat)(t:ae)(c o:Int):UB M (fB G q s t c o).1:=by
 unfold fB;split
 ·exact Im h _ _
 exact Y6 h A _ _ _
theorem YS{q:RW}(h:UB M q)(A:(q.ds.length:Int)<=M)(t:ae)(c o:Int):UB M (eO G q t c o):=by
 unfold eO;split
 ·exact Y6 h A _ _ _
 exact Im h _ _
theorem name_ub{q:RW}(h:UB M q)(B:(q.ds.length:Int)<=M){s:List Nat}(A:lK s q)(t:ae):UB M (wL q s t):=by
 unfold wL;split
 ·rename_i k hk
  have:=A.2 k (List.mem_of_find?_eq_some hk);exact h.set q.num ⟨by omega,by omega⟩
 exact Im h _ _
include hG in
theorem useg_ub{q:RW}(h:UB M q)(t:ae)(a b:Int)(x:ByteArray):UB M (qE q t (fq G a b x)):=by
 cases B:fq G a b x with
 | none=>exact Im h _ _
 | some n=>
  obtain⟨d,A,rfl⟩:=YR B;have:=hG d A;exact h.set q.num ⟨by omega,by omega⟩
include hG in
theorem head_ub{q:RW}(h:UB M q)(A:(q.ds.length:Int)<=M){s:List Nat}(B:lK s q)(t:ae)(o:Int):UB M (j3 G q s t o):=by
 unfold j3;repeat (first|exact YS h A _ _ _|exact name_ub h A B _|exact useg_ub hG h _ _ _ _|exact var_ub h A _ _ _ _|exact h|split)
theorem mark_ub{q:RW}(h:UB M q)(mk:Int)(s:List Nat):UB M (cO mk q s):=by
 unfold cO;split<;>exact h
end
mutual
theorem Tz{G:List Dc}{M:Int}(hG:∀d∈G,0<=d.node/\d.node<=M)(mk:Int):∀(t:ae) (o:Int) (s:List Nat) (q:RW),lK s q->UB M q->(q.ds.length:Int)+aB t<=M->UB M (bJ G mk t o s q).1
 | .node k x a e kids,o,s,q,hs,h,hM=>by
  have B:=JM mk q s;have C:=Br G (cO mk q s) s (.node k x a e kids) o;have A:lK s (cO mk q s):=hs.mono B;have F:aB (.node k x a e kids)=1+aC kids:=rfl;have D:=B.Oe;have E:=C.1.Oe;rw[bJ];exact Pk hG mk k _ kids 0 _ s _ (Fe _ o A) (A.mono C.1) (head_ub hG (mark_ub h mk s) (by omega) A _ o) (by omega)
theorem Pk{G:List Dc}{M:Int}(hG:∀d∈G,0<=d.node/\d.node<=M)(mk k:Int)(B:List Nat):∀(ts:List ae) (i:Nat) (o:Int) (s:List Nat) (q:RW),lK B q->lK s q->UB M q->(q.ds.length:Int)+aC ts<=M->UB M (dP G mk k B ts i o s q).1
 | [],i,o,s,q,_,_,h,_=>by
  rw[dP];exact h
 | t::ts,i,o,s,q,NU,hs,h,hM=>by
  have D:sI q { q with num:=q.num+1 } 0:=⟨ab9 _,ab9 _,ab9 _,rfl⟩
  have I:aC (t::ts)=aB t+aC ts:=rfl
  have A:lK (if k=16/\i=2 then B else s) { q with num:=q.num+1 }:=by
   split
   ·exact NU.mono D
   exact hs.mono D
  obtain⟨C,-,F⟩:=AZ G mk t o (if k=16/\i=2 then B else s) { q with num:=q.num+1 };have H:=C.Oe;have E:({ q with num:=q.num+1 }:RW).ds=q.ds:=rfl;rw[E]at H;rw[dP];refine Pk hG mk k B ts (i+1) o _ _ ((NU.mono D).mono C) ?_ (Tz hG mk t o _ { q with num:=q.num+1 } A h (by rw[E];omega)) (by omega);split
  ·exact F A
  exact A.mono C
end
theorem Ff{out:List Dc}{d e:Dc}(h:e∈vD out d):e∈out\/e=d:=by
 unfold vD at h;split at h
 ·exact .inl h
 rcases List.mem_append.1 h with h|h
 ·exact .inl h
 exact .inr (List.mem_singleton.1 h)
theorem Jh:∀(ts:List ae) (i:Nat) (o:Int) (out:List Dc),∀d∈gm ts i o out,d∈out\/((i:Int)<=d.node/\d.node<((i+ts.length:Nat):Int))
 | [],i,o,out,d,h=>.inl (by rw[gm]at h;exact h)
 | t::ts,i,o,out,d,h=>by
  rw[gm]at h;have B:(t::ts).length=ts.length+1:=rfl;rcases Jh ts _ _ _ d h with A|A
  ·have C:d∈out\/d.node=(i:Int):=by
    split at A
    ·exact(Ff A).imp_right fun e=>by rw[e]
    split at A
    ·exact(Ff A).imp_right fun e=>by rw[e]
    split at A
    ·exact(Ff A).imp_right fun e=>by rw[e]
    exact .inl A
   exact C.imp_right fun e=>by rw[e,B];omega
  exact .inr (by rw[B];omega)
def DK(N:List ae)(d:Dc):Prop:=∃(m:Nat) (y:ae),d.node=(m:Int)/\N[m]? =some y/\d.name=y.text/\(d.kind=0↔y.kind=3)/\(d.kind=1↔y.kind=4)/\(d.kind=2↔y.kind=5)
def uT(N:List ae)(o:Int):Prop:=∃m:Nat,o=(m:Int)/\m<N.length
def Zk(G:List Dc)(n:Nat)(y:ae)(v:Int):Prop:=
 v= -1\/(0<=v/\v<(n:Int)/\y.kind≠19/\y.kind≠22/\y.kind≠27)\/∃d∈G,v= -2 - d.node/\(y.kind=27->d.name=y.text/\(d.kind=0\/d.kind=2))/\(y.kind=19->d.kind=2)/\(y.kind=22->d.kind=1)
def mJ(N:List ae)(G:List Dc)(q:RW):Prop:=(∀d∈q.ds,DK N d/\(d.kind=1->uT N d.owner))/\∀(i:Nat) (v:Int) (y:ae),q.uses[i]? =some v->N[i]? =some y->Zk G q.ds.length y v
theorem WC{G:List Dc}{a b:Int}{x:ByteArray}{n:Int}(h:fq G a b x=some n):∃d∈G,d.node=n/\d.name=x/\(d.kind=a\/d.kind=b):=by
 unfold fq at h;rw[EU]at h
 cases A:G.find? (pD (decide (a=1)) x) with
 | none=>rw[A]at h;cases h
 | some d=>
  rw[A]at h;have B:(if d.kind=a\/d.kind=b then some d.node else none)=some n:=h;have C:=List.find?_some A;simp only[pD,acb,decide_eq_true_eq]at C;split at B
  ·rename_i h4
   exact⟨d,List.mem_of_find?_eq_some A,Option.some.inj B,C.2,h4⟩
  cases B
theorem Zk.mono{G:List Dc}{n m:Nat}{y:ae}{v:Int}(h:Zk G n y v)(D:n<=m):Zk G m y v:=by
 rcases h with h| ⟨A,C,B⟩|h
 ·exact .inl h
 ·exact .inr (.inl ⟨A,by omega,B⟩)
 exact .inr (.inr h)
section
variable {N:List ae}{G:List Dc}{q:RW}
theorem mJ.set{ds:List Dc}(h:mJ N G q)(D:∀d∈ds,DK N d/\(d.kind=1->uT N d.owner))(E:q.ds.length<=ds.length){t:ae}(F:N[q.num]? =some t){v:Int}(I:Zk G ds.length t v):mJ N G { q with ds:=ds,uses:=q.uses.set q.num v }:=by
 refine⟨D,fun i u y H C=>?_⟩;have A:(q.uses.set q.num v)[i]? =some u:=H;rw[List.getElem?_set]at A;by_cases B:q.num=i
 ·rw[if_pos B]at A
  subst B;split at A
  ·rw[F]at C
   cases C
   cases A
   exact I
  cases A
 rw[if_neg B]at A;exact(h.2 i u y A C).mono E
theorem mJ.dec(h:mJ N G q){t:ae}(B:N[q.num]? =some t){c o:Int}(C:(c=0↔t.kind=3)/\(c=1↔t.kind=4)/\(c=2↔t.kind=5))(E:c=1->uT N o)(D:t.kind≠19/\t.kind≠22/\t.kind≠27):mJ N G (qJ q c t o):=by
 refine h.set (ds:=q.ds++[⟨c,t.text,q.num,o⟩]) (v:=(q.ds.length:Int)) (fun d A=>?_) (by simp) B (.inr (.inl ⟨by omega,by rw[acm];simp<;>omega,D⟩));rcases List.mem_append.1 A with A|A
 ·exact h.1 d A
 rw[List.mem_singleton.1 A];exact⟨⟨q.num,t,rfl,B,rfl,C⟩,E⟩
theorem mJ.use(h:mJ N G q){t:ae}(I:N[q.num]? =some t){a b:Int}(B:t.kind=27->(a=0/\b=2))(C:t.kind=19->(a=2/\b=2))(D:t.kind=22->(a=1/\b=1)):mJ N G (qE q t (fq G a b t.text)):=by
 cases F:fq G a b t.text with
 | none=>exact h
 | some n=>
  obtain⟨d,E,H,J,A⟩:=WC F;exact h.set (ds:=q.ds) h.1 (ab9 _) I (.inr (.inr ⟨d,E,by rw[H],fun e=>⟨J,by rw[(B e).1,(B e).2]at A;exact A⟩,fun e=>by rw[(C e).1,(C e).2]at A;omega,fun e=>by rw[(D e).1,(D e).2]at A;omega⟩))
theorem mJ.GZ(h:mJ N G q){t:ae}(D:N[q.num]? =some t){c o:Int}(A:(c=0↔t.kind=3)/\(c=1↔t.kind=4)/\(c=2↔t.kind=5))(C:c=1->uT N o)(B:t.kind≠19/\t.kind≠22/\t.kind≠27):mJ N G (eO G q t c o):=by
 unfold eO;split
 ·exact h.dec D A C B
 exact h
theorem mJ.var(h:mJ N G q){t:ae}(A:N[q.num]? =some t){c o:Int}{s:List Nat}(B:3<=c)(C:t.kind=7\/t.kind=8\/t.kind=12\/t.kind=16):mJ N G (fB G q s t c o).1:=by
 unfold fB;split
 ·exact h
 exact h.dec A ⟨by omega,by omega,by omega⟩ (by omega) ⟨by omega,by omega,by omega⟩
theorem mJ.head(h:mJ N G q){t:ae}(A:N[q.num]? =some t){o:Int}(B:t.kind=4->uT N o){s:List Nat}(C:lK s q):mJ N G (j3 G q s t o):=by
 unfold j3;split
 ·exact h.GZ A ⟨by omega,by omega,by omega⟩ (by omega) ⟨by omega,by omega,by omega⟩
 split
 ·rename_i h4
  exact h.GZ A ⟨by omega,by omega,by omega⟩ (fun _=>B h4) ⟨by omega,by omega,by omega⟩
 split
 ·exact h.GZ A ⟨by omega,by omega,by omega⟩ (by omega) ⟨by omega,by omega,by omega⟩
 split
 ·unfold wL
  split
  ·rename_i k hk
   have:=C.2 k (List.mem_of_find?_eq_some hk);exact h.set (ds:=q.ds) h.1 (ab9 _) A (.inr (.inl ⟨by omega,by omega,by omega,by omega,by omega⟩))
  exact h
 split
 ·exact h.use A (by omega) (by omega) (fun _=>⟨rfl,rfl⟩)
 split
 ·exact h.use A (fun _=>⟨rfl,rfl⟩) (by omega) (by omega)
 split
 ·exact h.use A (by omega) (fun _=>⟨rfl,rfl⟩) (by omega)
 split
 ·exact h.use A (by omega) (by omega) (by omega)
 split
 ·exact h.var A (by omega) (by omega)
 split
 ·exact h.var A (by omega) (by omega)
 split
 ·exact h.var A (by omega) (by omega)
 exact h
theorem mJ.mark(h:mJ N G q)(mk:Int)(s:List Nat):mJ N G (cO mk q s):=by
 unfold cO;split<;>exact h
end
mutual
theorem ZU{N:List ae}{G:List Dc}(mk:Int):∀(t:ae) (o:Int) (s:List Nat) (q:RW),lK s q->mJ N G q->(∀(j:Nat) (y:ae),(aM t)[j]? =some y->N[q.num+j]? =some y)->(uT N o\/t.kind=3\/t.kind=5)->mJ N G (bJ G mk t o s q).1
 | .node k x a e kids,o,s,q,hs,h,hN,ho=>by
  have F:=JM mk q s;have C:=Br G (cO mk q s) s (.node k x a e kids) o;have A:lK s (cO mk q s):=hs.mono F;have D:N[q.num]? =some (.node k x a e kids):=hN 0 _ (by rw[aM];rfl);have H:(j3 G (cO mk q s) s (.node k x a e kids) o).num=q.num:=by rw[C.2,mV]
  rw[bJ];refine Gd mk k _ kids 0 _ s _ (Fe _ o A) (A.mono C.1) ((h.mark mk s).head (by rw[mV];exact D) (fun e=>ho.resolve_right fun E=>by have J:(k:Int)=4:=e;have K:k=3\/k=5:=E;omega) A) (fun j y I=>?_) (.inl ?_)
  ·have:=hN (j+1) y (by rw[aM,aci];exact I)
   rw[H,show q.num+1+j=q.num+(j+1) by omega];exact this
  by_cases B:k=3\/k=5
  ·rw[if_pos B]
   exact⟨q.num,rfl,(acg.1 D).1⟩
  rw[if_neg B];exact ho.resolve_right B
theorem Gd{N:List ae}{G:List Dc}(mk k:Int)(B:List Nat):∀(ts:List ae) (i:Nat) (o:Int) (s:List Nat) (q:RW),lK B q->lK s q->mJ N G q->(∀(j:Nat) (y:ae),(bg ts)[j]? =some y->N[q.num+1+j]? =some y)->(uT N o\/∀t∈ts,t.kind=3\/t.kind=5)->mJ N G (dP G mk k B ts i o s q).1
 | [],i,o,s,q,_,_,h,_,_=>by
  rw[dP];exact h
 | t::ts,i,o,s,q,NU,hs,h,hN,ho=>by
  have D:sI q { q with num:=q.num+1 } 0:=⟨ab9 _,ab9 _,ab9 _,rfl⟩
  have A:lK (if k=16/\i=2 then B else s) { q with num:=q.num+1 }:=by
   split
   ·exact NU.mono D
   exact hs.mono D
  obtain⟨E,H,I⟩:=AZ G mk t o (if k=16/\i=2 then B else s) { q with num:=q.num+1 };have F:=jk t;rw[dP];refine Gd mk k B ts (i+1) o _ _ ((NU.mono D).mono E) ?_ (ZU mk t o _ { q with num:=q.num+1 } A h (fun j y C=>hN j y ?_) (ho.imp_right fun h=>h t (by simp))) (fun j y C=>?_) (ho.imp_right fun h c F=>h c (by simp[F]))
  ·split
   ·exact I A
   exact A.mono E
  ·rw[bg,List.getElem?_append_left (by exact(acg.1 C).1)]
   exact C
  have:=hN (aB t+j) y (by rw[bg,ack (by rw[eZ];omega),eZ,Nat.add_sub_cancel_left];exact C);have J:({ q with num:=q.num+1 }:RW).num=q.num+1:=rfl;rw[J]at H;rw[show(bJ G mk t o (if k=16/\i=2 then B else s) { q with num:=q.num+1 }).1.num+1+j=q.num+1+(aB t+j) by omega];exact this
end
theorem Ru{N:List ae}:∀(ts:List ae) (i:Nat) (o:Int),(∀(j:Nat) (y:ae),ts[j]? =some y->N[i+j]? =some y)->∀d∈iG ts i o,DK N d
 | [],_,_,_,d,h=>by rw[iG]at h;cases h
 | t::ts,i,o,hN,d,h=>by
  rw[iG]at h;rcases List.mem_append.1 h with h|h
  ·have A:=hN 0 t rfl
   split at h
   ·rw[List.mem_singleton.1 h]
    exact⟨i,t,rfl,A,rfl,(by omega:(0:Int)=0↔t.kind=3),(by omega:(0:Int)=1↔t.kind=4),(by omega:(0:Int)=2↔t.kind=5)⟩
   split at h
   ·rw[List.mem_singleton.1 h]
    exact⟨i,t,rfl,A,rfl,(by omega:(2:Int)=0↔t.kind=3),(by omega:(2:Int)=1↔t.kind=4),(by omega:(2:Int)=2↔t.kind=5)⟩
   split at h
   ·rw[List.mem_singleton.1 h]
    exact⟨i,t,rfl,A,rfl,(by omega:(1:Int)=0↔t.kind=3),(by omega:(1:Int)=1↔t.kind=4),(by omega:(1:Int)=2↔t.kind=5)⟩
   cases h
  exact Ru ts (i+1) _ (fun j y B=>by have:=hN (j+1) y B;rw[show i+1+j=i+(j+1) by omega];exact this) d h
theorem Oc:∀(L out:List Dc),∀d∈L.foldl vD out,d∈out\/d∈L
 | [],out,d,h=>.inl h
 | x::L,out,d,h=>by
  rcases Oc L (vD out x) d h with h|h
  ·exact(Ff h).imp_right fun e=>by rw[e];exact List.mem_cons_self
  exact .inr (List.mem_cons_of_mem _ h)
theorem uses_ok{t:ae}(Y:dC t=true){i:Nat}{u:Int}{y:ae}(E:(aZ t).uses[i]? =some u)(H:(aM t)[i]? =some y):
 u= -1\/∃(j m:Nat) (d:Dc) (z:ae),u=(j:Int)/\(aZ t).ds[j]? =some d/\d.node=(m:Int)/\(aM t)[m]? =some z/\(d.kind=0↔z.kind=3)/\(y.kind=27->d.name=y.text/\(z.kind=3\/z.kind=5))/\(y.kind=19->z.kind=5)/\(y.kind=22->uT (aM t) d.owner):=by
 obtain⟨W,hW,P,-,jr,-⟩:=Pm Y (-7);obtain⟨h2,J⟩:=tT Y
 have B:mJ (aM t) (gm (aM t) 0 (-1) []) W:=by
  rw[<- hW];generalize gm (aM t) 0 (-1) []=G
  obtain⟨k,x,a,e,A⟩:=t;have Q:k=2:=h2;subst Q;rw[bJ];obtain⟨D,C⟩:∃D:RW,(⟨[],List.replicate (aB (.node 2 x a e A)) (-1),[],0,[]⟩:RW)=D:=⟨_,rfl⟩
  rw[C];have hh:j3 G (cO (-7) D []) [] (.node 2 x a e A) (-1)=D:=by rw[<- C];rfl
  have ha:qL G (cO (-7) D []) [] (.node 2 x a e A)=[]:=rfl;rw[hh,ha];have n:lK [] D:=⟨Nat.zero_le _,fun i hi=>by cases hi⟩
  have i0:mJ (aM (.node 2 x a e A)) G D:=by
   rw[<- C];exact⟨fun d F=>(by cases F),fun i v y E H=>.inl (List.mem_replicate.1 (acn E)).2⟩
  refine Gd (-7) 2 [] A 0 _ [] D n n i0 (fun j y H=>?_) (.inr fun c hc=>?_)
  ·rw[<- C]
   show(aM (.node 2 x a e A))[0+1+j]? =some y;rw[aM,show 0+1+j=j+1 by omega,aci];exact H
  have:=J c hc;cases c
  unfold qd at this;simp only[Bool.or_eq_true,acb,decide_eq_true_eq]at this;exact this.imp (fun h=>h.1) (fun h=>h.1.1)
 have hG:∀d∈gm (aM t) 0 (-1) [],DK (aM t) d:=fun d F=>by
  rw[ET]at F;rcases Oc _ _ d F with h|h
  ·cases h
  exact Ru _ 0 (-1) (fun j y H=>by rw[Nat.zero_add];exact H) d h
 rw[<- jr,List.getElem?_map]at E
 cases S:W.uses[i]? with
 | none=>rw[S]at E;cases E
 | some v=>
  rw[S]at E;have R:iP W.ds v=u:=Option.some.inj E;rw[<- P];subst R;rcases B.2 i v y S H with rfl| ⟨h0,h1,h3,h4,h5⟩| ⟨d,F,rfl,Z,k2,k3⟩
  ·exact .inl rfl
  ·refine .inr ?_
   obtain⟨j,rfl⟩:=Int.eq_ofNat_of_zero_le h0;have I:j<W.ds.length:=by omega
   obtain⟨⟨m,z,T,K,U,L,V,O⟩,-⟩:=B.1 _ (List.getElem_mem I);exact⟨j,m,W.ds[j],z,by unfold iP;rw[if_neg (by omega)],ace I,T,K,L,fun e=>absurd e h5,fun e=>absurd e h3,fun e=>absurd e h4⟩
  obtain⟨m,z,T,K,U,L,V,O⟩:=hG d F;unfold iP;rw[if_pos (by omega)]
  cases hf:W.ds.findIdx? fun l=>decide (l.node= -2 - (-2 - d.node)) with
  | none=>exact .inl rfl
  | some j=>
   obtain⟨I,hp,-⟩:=List.findIdx?_eq_some_iff_getElem.1 hf;rw[decide_eq_true_eq]at hp;obtain⟨⟨r,z',g,X,f,b,f5,f6⟩,fo⟩:=B.1 _ (List.getElem_mem I);have hm:r=m:=by omega
   subst hm;rw[K]at X;cases X
   exact .inr ⟨j,r,W.ds[j],z,rfl,ace I,g,K,b,fun e=>⟨by rw[f,<- U];exact(Z e).1,(Z e).2.imp L.1 O.1⟩,fun e=>O.1 (k2 e),fun e=>fo (f5.2 (V.1 (k3 e)))⟩
def tz:ae:=.node 0 ⟨#[]⟩ 0 0 []
def kd(t:ae)(i:Nat):ae:=t.kids.getD i tz
def nk(t:ae)(n i:Nat):Int:=(bR t.kids (n+1)).getD i 0
structure CM where
 N:List ae
 nm:List ByteArray
 ds:List Dc
 us:List Int
def oW(C:CM)(n:Nat):Option Dc:=(C.us[n]?).bind fun u=>if u<0 then none else C.ds[u.toNat]?
def Ad(C:CM)(m:Int):ae:=C.N.getD m.toNat tz
def gL(v k:Int)(z:ae):bD:=fV v k 0 ⟨#[]⟩ z
def Tx(n:Nat)(y:ae):Option Ty->List bD
 | some x=>[fV n x.1 x.2.1 x.2.2 y]
 | none=>[]
def xG(C:CM)(n:Nat)(y:ae):List bD:=Tx n y (mG C.nm y)
def nA(t:ae)(n:Nat)(k:Int):List bD:=(List.range t.kids.length).map fun i=>gL (nk t n i) k (kd t i)
def uS(C:CM)(t:ae)(n:Nat):List bD:=match oW C n with
 | none=>[]
 | some d=>
  if (Ad C d.node).kind=3 then iH t.kids (bR t.kids (n+1)) (bR (Ad C d.node).kids (d.node.toNat+1)) t.kids.length++[fV n 4 0 t.text t]
  else iH t.kids (bR t.kids (n+1)) (bR (kd (Ad C d.node) 0).kids (d.node.toNat+2)) t.kids.length++(if t.kind=27/\(kd (Ad C d.node) 1).kind≠0 then [j4 n d.node t] else [])
def BF(t:ae)(n:Nat):List bD:=
 if (fP t.text [97,110,100] || fP t.text [111,114])=true then nA t n 2++[gL n 2 t]
 else if (fP t.text [61,61] || fP t.text [33,61])=true then [j4 (nk t n 0) (nk t n 1) t,gL (nk t n 0) 6 (kd t 0),gL n 2 t]
 else nA t n 1++[gL n (if (fP t.text [60] || fP t.text [60,61] || fP t.text [62] || fP t.text [62,61])=true then 2 else 1) t]
def Ky(t:ae):Int:=if fP t.text [110,111,116]=true then 2 else 1
def bH(C:CM)(t:ae)(n:Nat)(res:Int):List bD:=
 if t.kind=4\/t.kind=7\/t.kind=8 then xG C n (kd t 0)
 else if t.kind=5 then xG C n (kd t 1)
 else if t.kind=12 then xG C n (kd t 0)++[j4 n (nk t n 1) t]
 else if t.kind=13 then [j4 (nk t n 0) (nk t n 1) t]
 else if t.kind=14\/t.kind=15\/t.kind=18 then [gL (nk t n 0) 2 (kd t 0)]
 else if t.kind=16 then [gL n 1 t,gL (nk t n 0) 1 (kd t 0),gL (nk t n 1) 1 (kd t 1)]
 else if t.kind=17 then(if (kd t 0).kind≠0/\0<=res then [j4 (nk t n 0) res t] else [])
 else if t.kind=19\/t.kind=27 then uS C t n
 else if t.kind=20 then(match oW C n with|some d=>[j4 n d.node t]|none=>[])
 else if t.kind=21 then [gL (nk t n 0) 5 (kd t 0),gL (nk t n 1) 1 (kd t 1),gL n 1 t]
 else if t.kind=22 then(match oW C n with|some d=>[fV (nk t n 0) 4 0 (Ad C d.owner).text t,j4 n d.node t]|none=>[])
 else if t.kind=23 then [gL (nk t n 0) 5 (kd t 0),gL n 1 t]
 else if t.kind=24 then [gL n 1 t]
 else if t.kind=25 then [gL n 2 t]
 else if t.kind=26 then nA t n 1++(if t.kids.length<=8 then [fV n 3 t.kids.length ⟨#[]⟩ t] else [])
 else if t.kind=28 then nA t n (Ky t)++[gL n (Ky t) t]
 else if t.kind=29 then BF t n
 else []
def kT(t:ae)(n:Nat)(res:Int):Int:=if t.kind=5 then(if (kd t 1).kind≠0 then(n:Int) else -1) else res
def jD(C:CM):List ae->Nat->Int->List bD×Int
 | [],_,r=>([],r)
 | t::ts,n,r=>(bH C t n (kT t n r)++(jD C ts (n+1) (kT t n r)).1,(jD C ts (n+1) (kT t n r)).2)
theorem yJ(C:CM):∀(a b:List ae) (n:Nat) (r:Int),jD C (a++b) n r=((jD C a n r).1++(jD C b (n+a.length) (jD C a n r).2).1,(jD C b (n+a.length) (jD C a n r).2).2)
 | [],b,n,r=>rfl
 | t::a,b,n,r=>by
  rw[List.cons_append,jD,yJ C a b,jD,List.append_assoc,aco,show n+1+a.length=n+(a.length+1) by omega]
theorem gV{t:ae}(h:dJ t=true){sh:uM}(E:jB t.kind=some sh)(D:sh.list=none):t.kids.length=sh.kids.length:=by
 obtain⟨F,A,C⟩:=fM h;obtain⟨-,B,-⟩:=jg C;rw[E]at A;cases A
 unfold oP at B;rw[D]at B;exact of_decide_eq_true B
theorem gq{t:ae}{i:Nat}(h:i<t.kids.length):t.kids[i]? =some (kd t i):=by
 unfold kd;rw[List.getD_eq_getElem?_getD,ace h];rfl
theorem DC{t:ae}{i:Nat}(h:i<t.kids.length)(n:Nat):(bR t.kids (n+1))[i]? =some (nk t n i):=by
 unfold nk;rw[List.getD_eq_getElem?_getD,yZ h];rfl
theorem KU{t:ae}{i:Nat}(h:i<t.kids.length)(n:Nat):nk t n i=((n+1+aC (t.kids.take i):Nat):Int):=by
 have:=DC h n;rw[yZ h]at this;exact(Option.some.inj this).symm
theorem kd_at{N:List ae}{t:ae}{n i:Nat}(h:i<t.kids.length)(D:∀(j:Nat) (y:ae),(aM t)[j]? =some y->N[n+j]? =some y):∀(j:Nat) (y:ae),(aM (kd t i))[j]? =some y->N[n+1+aC (t.kids.take i)+j]? =some y:=by
 intro j y E;have e:=uJ t.kids i _ (gq h)
 have C:(bg t.kids)[aC (t.kids.take i)+j]? =some y:=by
  have B:(bg (t.kids.take (i+1)))[aC (t.kids.take i)+j]? =some y:=by
   rw[e,ack (by rw[mK];omega),mK,Nat.add_sub_cancel_left];exact E
  have A:=uP (t.kids.take (i+1)) (t.kids.drop (i+1));rw[List.take_append_drop]at A;rw[A,List.getElem?_append_left (acg.1 B).1];exact B
 rw[show n+1+aC (t.kids.take i)+j=n+(1+(aC (t.kids.take i)+j)) by omega];exact D _ _ (by rw[iK,show 1+(aC (t.kids.take i)+j)=(aC (t.kids.take i)+j)+1 by omega,aci];exact C)
theorem aae{t:ae}(J:dC t=true){i:Nat}{y:ae}(V:(aM t)[i]? =some y)(C:y.kind=17):∃(j:Nat) (z:ae),j<i/\(aM t)[j]? =some z/\z.kind=5:=by
 obtain⟨r,I⟩:=tT J;unfold dC at J;rw[acb]at J;have S:=fU J.2
 have key:∀(ks:List ae),(∀k∈ks,qd k=true/\eX k=true)->∀(i:Nat),(bg ks)[i]? =some y->∃(j:Nat) (z:ae),j<i/\(bg ks)[j]? =some z/\z.kind=5:=by
  intro ks
  induction ks with
  | nil=>intro _ i h;rw[bg]at h;cases h
  | cons k ks ih=>
   intro H i A;rw[bg]at A⊢;by_cases R:i<(aM k).length
   ·rw[List.getElem?_append_left R]at A
    obtain⟨U,u⟩:=H k (by simp);obtain⟨c,x,a,e,B⟩:=k;unfold qd at U;simp only[Bool.or_eq_true,acb,decide_eq_true_eq]at U
    cases i with
    | zero=>
     rw[aM]at A;have:=Option.some.inj A;rw[<- this]at C;have P:c=17:=C;omega
    | succ i=>
     rcases U with⟨rfl,Z⟩| ⟨⟨rfl,-⟩,-⟩
     ·exfalso
      rw[aM,aci]at A;have T:=fU u
      have:∀(D:List ae),(∀f:ae,f∈D->f.kind=4/\eX f=true)->∀i:Nat,(bg D)[i]? =some y->False:=by
       intro D
       induction D with
       | nil=>intro _ i h;rw[bg]at h;cases h
       | cons f D ih2=>
        intro F i A;rw[bg]at A;by_cases Q:i<(aM f).length
        ·rw[List.getElem?_append_left Q]at A
         obtain⟨X,K⟩:=F f (by simp);obtain⟨c,x,a,e,B⟩:=f;have Y:c=4:=X;subst Y
         cases i with
         | zero=>
          rw[aM]at A;have:=Option.some.inj A;rw[<- this]at C;have P:(4:Int)=17:=C;omega
         | succ i=>
          rw[aM,aci]at A;have:=YY K A;omega
        rw[ack (by omega)]at A;exact ih2 (fun g O=>F g (by simp[O])) _ A
      refine this B (fun f E=>⟨?_,T f E⟩) i A;have:=List.all_eq_true.1 Z f E;simp only[acb,decide_eq_true_eq]at this;exact this.1
     exact⟨0,.node 5 x a e B,by omega,by rw[List.getElem?_append_left (by rw[aM];simp),aM];rfl,rfl⟩
   rw[ack (by omega)]at A;obtain⟨j,z,v,W,L⟩:=ih (fun g O=>H g (by simp[O])) _ A;exact⟨(aM k).length+j,z,by omega,by rw[ack (by omega),Nat.add_sub_cancel_left];exact W,L⟩
 rw[iK]at V⊢
 cases i with
 | zero=>
  have:=Option.some.inj V;rw[<- this]at C;omega
 | succ i=>
  obtain⟨j,z,v,W,L⟩:=key t.kids (fun k C=>⟨I k C,S k C⟩) i V;exact⟨j+1,z,by omega,W,L⟩
open Go.RowKit
structure RH (E:CE) (C:CM) (B:Nat) (w:World):Prop where
 nd:aD w B E.rA 0 C.N
 nn:C.N.length=E.rn
 us:aS 1 gu w B E.uA C.us
 un:C.us.length=E.un
 ds:aS 4 bQ w B E.dA C.ds
 dn:C.ds.length=E.dn
 rc:jI w B E.sA E.sn C.nm
 bw:B<=w.heap.size
 len:C.N.length<=200000
 st:∀w',CX E.base E.cb w w'->aD w' B E.rA 0 C.N/\aS 1 gu w' B E.uA C.us/\aS 4 bQ w' B E.dA C.ds/\jI w' B E.sA E.sn C.nm
 top:∀gb go,E.rA=some ⟨gb,go,none⟩->gb≠E.cb/\gb<E.base
theorem RH.cx{E:CE}{C:CM}{B:Nat}{w w':World}(h:RH E C B w)(D:CX E.base E.cb w w'):RH E C B w':=
 have A:=h.st w' D;⟨A.1,h.nn,A.2.1,h.un,A.2.2.1,h.dn,A.2.2.2,aca h.bw D.size,h.len,fun H F=>h.st H (D.trans F),h.top⟩
theorem RH.topc{E:CE}{C:CM}{B:Nat}{w w':World}(h:RH E C B w)(J:CX E.base E.cb w w'){A F:Nat}(H:E.rA=some ⟨A,F,none⟩)(I:A<w.heap.size)(o:Nat):w'.cell? ⟨A,o,none⟩=w.cell? ⟨A,o,none⟩:=
 World.cell?_of_block (w:=w) (J.block A I fun D=>by
  obtain⟨K,L⟩:=h.top A F H
  rcases D with D| ⟨D,-⟩ <;>omega)
theorem kZ{w:World}{B:Nat}{A:Option Addr}{N:List ae}(K:aD w B A 0 N){i:Nat}{t:ae}(L:N[i]? =some t):
 ∃D E T c,A=some ⟨D,E,none⟩/\D<B/\w.cell? ⟨D,E+i*5,none⟩=some (.int .i64 t.kind)/\w.cell? ⟨D,E+i*5+1,none⟩=some (.string t.text)/\w.cell? ⟨D,E+i*5+2,none⟩=some (.int .i64 t.at_)/\w.cell? ⟨D,E+i*5+3,none⟩=some (.int .i64 t.end_)/\w.cell? ⟨D,E+i*5+4,none⟩=some (.slice T t.kids.length c)/\aD w B T 0 t.kids:=by
 obtain⟨vals,⟨D,E,I,F,C⟩,J⟩:=K.get i t L;obtain⟨T,c,rfl,H⟩:=J.five;exact⟨D,E,T,c,I,F,by simpa using C 0 _ rfl,by simpa using C 1 _ rfl,by simpa using C 2 _ rfl,by simpa using C 3 _ rfl,by simpa using C 4 _ rfl,H⟩
theorem xS(E:CE)(C:CM)(B:Nat)(out:List bD)(w:World)(h:kD E out w)(K:RH E C B w)(n i:Nat)(t:ae)(ht:C.N[n]? =some t)(hi:i<=t.kids.length)(hN:n+aB t<=200000):
 Calls Tryz.prog 114 #[.pointer (some ⟨E.cb,0,none⟩),.int .i64 (n:Int),.int .i64 (i:Int)] w fun e w'=>e= .returned (.int .i64 ((n+1+aC (t.kids.take i):Nat):Int))/\Below w.heap.size w w':=by
 obtain⟨I,b,T,c,hA,a6,g0,g1,g2,g3,x,oJ⟩:=kZ K.nd ht;obtain⟨oA,oc,hC,-⟩:=h;have f:w.cell? ⟨E.cb,0,none⟩=some (.slice (some ⟨I,b,none⟩) E.rn E.rc):=by rw[<- hA];exact hC.cell 0
 have lc:=hC.lt;have S:I<w.heap.size:=Nat.lt_of_lt_of_le a6 K.bw;have ar:n<E.rn:=by rw[<- K.nn];exact(acg.1 ht).1
 have aq:(n:Int)<(E.rn:Int):=by omega
 have O:=eY t;have Q:=fe t.kids;have V:t.kids.length<=aC t.kids:=dO t.kids;have W:IntKind.i64.wrap ((n:Int)+1)=(n:Int)+1:=IntWalk.i64_in _ (by omega);obtain⟨tl, H⟩:=ag t.kids.length;rw[H]at x hi V;have l:=kH oJ;have g:=kH H;have z:=kH (And.intro O Q);have lY:=kH K.bw;have af:i<=200000:=by omega
 clear hC K ht hA H O Q oJ V g0 g1 g2 g3;go_in
 go_wp2_with fail
 go_loopg [7,8] i (fun gk s7 s8 wr=> ∃j q:Nat,j+gk=i/\s7= .int .i64 (q:Int)/\s8= .int .i64 (j:Int)/\n+1+aC (t.kids.take j)=q/\Below w.heap.size w wr)
 case atStart=>exact⟨0,n+1,by omega,by congr 1,rfl,by simp[aC],by(repeat first|exact .refl _ _|assumption|refine .trans ?_ (.mono (by assumption) ?_)|refine .alloc ?_ ?_ _|refine .setCell ?_ ?_ _|refine .drew ?_|refine aL ?_ _|omega|(simp<;>omega))⟩
 obtain⟨j,q,hj,rfl,rfl,v,A⟩:=hrel;have ab:wr.cell? ⟨E.cb,0,none⟩=some (.slice (some ⟨I,b,none⟩) E.rn E.rc):=(A.cell (p:=⟨E.cb,_,none⟩) lc).trans f;have ad:wr.cell? ⟨I,b+n*5+4,none⟩=some (.slice T tl c):=(A.cell (p:=⟨I,_,none⟩) S).trans x;have av:E.cb<wr.heap.size:=Nat.lt_of_lt_of_le lc A.size;have aw:I<wr.heap.size:=Nat.lt_of_lt_of_le S A.size;have al:j<=i:=by omega
 by_cases ao:j<i
 ·have aa:(j:Int)<(i:Int):=by omega
  have a7:j<t.kids.length:=by rw[g.out];omega
  have u:t.kids[j]? =some (kd t j):=gq a7;obtain⟨F,X,U,uc,a1,a8,u0,u1,u2,u3,u4,Bp⟩:=kZ l.out u;subst a1;have Y:F<w.heap.size:=Nat.lt_of_lt_of_le a8 lY.out;have Z:=kH (LZ (aB (kd t j)) (kd t j) U uc wr (ab9 _) (by have:=z.out.2 (j+1);rw[dI t.kids j _ u]at this;have:=z.out.1;omega) (aD.mono (aca lY.out A.size) _ _ _ (aD.below A lY.out _ _ _ Bp)));have D:=dI t.kids j _ u;have r:=z.out.2 (j+1);have P:=z.out.1;rw[D]at r;obtain⟨y, iR⟩:=ag (aB (kd t j));obtain⟨cs, R⟩:=ag (aC (t.kids.take j));rw[iR]at Z D r;rw[R]at D r v;obtain⟨uk, nJ⟩:=ag ((kd t j).kind);obtain⟨ux, oI⟩:=ag ((kd t j).text);obtain⟨ua, qm⟩:=ag ((kd t j).at_);obtain⟨uz, rP⟩:=ag ((kd t j).end_);obtain⟨ul, nY⟩:=ag ((kd t j).kids.length);unfold aO at Z;rw[nJ,oI,qm,rP,nY]at Z;rw[nJ]at u0;rw[oI]at u1;rw[qm]at u2;rw[rP]at u3;rw[nY]at u4;have v0:wr.cell? ⟨F,X+j*5,none⟩=some (.int .i64 uk):=(A.cell (p:=⟨F,_,none⟩) Y).trans u0;have v1:wr.cell? ⟨F,X+j*5+1,none⟩=some (.string ux):=(A.cell (p:=⟨F,_,none⟩) Y).trans u1;have v2:wr.cell? ⟨F,X+j*5+2,none⟩=some (.int .i64 ua):=(A.cell (p:=⟨F,_,none⟩) Y).trans u2;have v3:wr.cell? ⟨F,X+j*5+3,none⟩=some (.int .i64 uz):=(A.cell (p:=⟨F,_,none⟩) Y).trans u3;have v4:wr.cell? ⟨F,X+j*5+4,none⟩=some (.slice U ul uc):=(A.cell (p:=⟨F,_,none⟩) Y).trans u4;have an:(j:Int)<(tl:Int):=by omega
  have T9:IntKind.i64.wrap ((j:Int)+1)=(j:Int)+1:=IntWalk.i64_in _ (by omega);have au:IntKind.i64.wrap ((q:Int)+(y:Int))=(q:Int)+(y:Int):=IntWalk.i64_in _ (by omega);have J:=kH A;have k:Hid (n+1+aC (t.kids.take (j+1))=q+y):=kH (by rw[D];omega);clear A D r P v iR R u nJ oI qm rP nY u0 u1 u2 u3 u4 Bp W f x;go_wp2_with fail
  refine Z.out.mono ?_;rintro e w2 ⟨rfl,L⟩;have m:=kH (J.out.trans (L.mono J.out.size));clear L;go_wp2_with fail
  go_roundg (gk - 1)
  case measure=>omega
  exact⟨j+1,q+y,by omega,by congr 1,by simp,k.out,m.out⟩
 have sW:j=i:=by omega
 subst sW;have J:Hid (n+1+aC (t.kids.take j)=q/\Below w.heap.size w wr):=kH ⟨v,A⟩;clear A W f x v;go_wp2_with fail
 go_ret
 exact⟨by rw[J.out.1];rfl,J.out.2⟩
def IB(C:CM)(n:Nat):Prop:=∃u:Int,C.us[n]? =some u/\(u= -1\/∃(q:Nat) (d:Dc),u=(q:Int)/\C.ds[q]? =some d)
theorem IB.cases{C:CM}{n:Nat}(h:IB C n):(oW C n=none/\C.us[n]? =some (-1))\/∃(q:Nat) (d:Dc),oW C n=some d/\C.us[n]? =some (q:Int)/\C.ds[q]? =some d:=by
 obtain⟨u,A,rfl| ⟨q,d,rfl,B⟩⟩:=h
 ·exact .inl ⟨by unfold oW;rw[A];rfl,A⟩
 refine .inr ⟨q,d,?_,A,B⟩;unfold oW;rw[A];show(if (q:Int)<0 then none else C.ds[(q:Int).toNat]?)=some d;rw[if_neg (by omega)];exact B
theorem XK(E:CE)(C:CM)(B:Nat)(out:List bD)(w:World)(h:kD E out w)(A:RH E C B w)(n:Nat)(Z:IB C n):
 Calls Tryz.prog 118 #[.pointer (some ⟨E.cb,0,none⟩),.int .i64 (n:Int)] w fun e w'=>e= .returned (.int .i64 ((oW C n).elim (-1) Dc.node))/\w=w':=by
 obtain⟨m,l,H,-⟩:=h;have lc:=H.lt;rcases Z.cases with⟨J,I⟩| ⟨q,d,J,I,Q⟩
 all_goals
  rw[J];obtain⟨L,T,P,S,D⟩:=A.us n _ I;have K:=D 0 _ rfl;have u:w.cell? ⟨E.cb,2,none⟩=some (.slice (some ⟨L,T,none⟩) E.un E.uc):=by rw[<- P];exact H.cell 2
  have Y:(n:Int)<(E.un:Int):=by have:=(acg.1 I).1;have:=A.un;omega
  have r:L<w.heap.size:=Nat.lt_of_lt_of_le S A.bw
 ·have y:w.cell? ⟨L,T+n,none⟩=some (.int .i64 (-1)):=by simpa using K
  clear K H A P D J I;go_in
  go_wp2_with fail
  go_ret
  exact⟨rfl,rfl⟩
 have y:w.cell? ⟨L,T+n,none⟩=some (.int .i64 (q:Int)):=by simpa using K
 obtain⟨O,V,F,z,U⟩:=A.ds q d Q;have W:w.cell? ⟨O,V+q*4+2,none⟩=some (.int .i64 d.node):=by simpa using U 2 _ rfl
 have v:w.cell? ⟨E.cb,1,none⟩=some (.slice (some ⟨O,V,none⟩) E.dn E.dc):=by rw[<- F];exact H.cell 1
 have x:(q:Int)<(E.dn:Int):=by have:=(acg.1 Q).1;have:=A.dn;omega
 have t:O<w.heap.size:=Nat.lt_of_lt_of_le z A.bw;have R:¬((q:Int)<0):=by omega
 have X:decide ((q:Int)<0)=false:=decide_eq_false R;show Calls _ _ _ _ fun e w'=>e= .returned (.int .i64 d.node)/\w=w'
 generalize d.node=dm at W⊢
 clear K H A P D J I U F Q;go_in
 go_wp2_with fail
 go_ret
 exact⟨rfl,rfl⟩
theorem U6(E:CE)(C:CM)(B:Nat)(out:List bD)(w:World)(h:kD E out w)(A:RH E C B w)(n q:Nat)(d:Dc)(P:C.us[n]? =some (q:Int))(L:C.ds[q]? =some d):
 Calls Tryz.prog 120 #[.pointer (some ⟨E.cb,0,none⟩),.int .i64 (n:Int)] w fun e w'=>e= .returned (.int .i64 d.owner)/\Below w.heap.size w w':=by
 obtain⟨u,t,H,-⟩:=h;have lc:=H.lt;obtain⟨Q,U,T,O,F⟩:=A.us n _ P;have r:w.cell? ⟨Q,U+n,none⟩=some (.int .i64 (q:Int)):=by simpa using F 0 _ rfl
 have y:w.cell? ⟨E.cb,2,none⟩=some (.slice (some ⟨Q,U,none⟩) E.un E.uc):=by rw[<- T];exact H.cell 2
 have X:(n:Int)<(E.un:Int):=by have:=(acg.1 P).1;have:=A.un;omega
 have v:Q<w.heap.size:=Nat.lt_of_lt_of_le O A.bw;obtain⟨I,S,D,Y,R⟩:=A.ds q d L;have V:w.cell? ⟨I,S+q*4+3,none⟩=some (.int .i64 d.owner):=by simpa using R 3 _ rfl
 have z:w.cell? ⟨E.cb,1,none⟩=some (.slice (some ⟨I,S,none⟩) E.dn E.dc):=by rw[<- D];exact H.cell 1
 have Z:(q:Int)<(E.dn:Int):=by have:=(acg.1 L).1;have:=A.dn;omega
 have x:I<w.heap.size:=Nat.lt_of_lt_of_le Y A.bw;generalize d.owner=dm at V⊢
 clear H A T F P R D L;go_in
 go_wp2_with fail
 refine dF (fun W=>W=w.drew) [] [true,true,true,true,true,true,true,true,true,true,true,true,true,true,true,true,true] (by kernel_rfl) (by kernel_rfl) rfl (by kernel_rfl) ?_;have J:w.drew=w.drew:=rfl;iterate 17(refine eD rfl J (by intro w' K;obtain rfl:=K;go_simp;rfl) ?_;simp only[Act.put,sA,sZ,sC])
 refine gp ?_;go_wp2_with fail
 go_ret
 exact⟨rfl,by(repeat first|exact .refl _ _|assumption|refine .trans ?_ (.mono (by assumption) ?_)|refine .alloc ?_ ?_ _|refine .setCell ?_ ?_ _|refine .drew ?_|refine aL ?_ _|omega|(simp<;>omega))⟩
theorem yK(k:Int)(w:World):Calls Tryz.prog 117 #[.int .i64 k] w fun e w'=>e= .returned (.agg #[.int .i64 k,.int .i64 0,.string ⟨#[]⟩])/\Below w.heap.size w w':=by
 go_in
 go_wp2_with fail
 refine bodyPost_ret (v:=.agg #[.int .i64 k,.int .i64 0,.string ⟨#[]⟩]) (by simp[results,Tryz.results117,go_sem]) rfl ?_;exact⟨rfl,by(repeat first|exact .refl _ _|assumption|refine .trans ?_ (.mono (by assumption) ?_)|refine .alloc ?_ ?_ _|refine .setCell ?_ ?_ _|refine .drew ?_|refine aL ?_ _|omega|(simp<;>omega))⟩
theorem DJ{N:List ae}{t:ae}{n i:Nat}(h:i<t.kids.length)(A:∀(j:Nat) (y:ae),(aM t)[j]? =some y->N[n+j]? =some y):N[n+1+aC (t.kids.take i)]? =some (kd t i):=
 kd_at h A 0 _ (by rw[iK];rfl)
def BZ(t:ae)(n:Nat)(k:Int)(j:Nat):List bD:=(List.range j).map fun i=>gL (nk t n i) k (kd t i)
theorem Qk(t:ae)(n:Nat)(k:Int)(j:Nat):BZ t n k (j+1)=BZ t n k j++[gL (nk t n j) k (kd t j)]:=by
 unfold BZ;rw[List.range_succ,List.map_append];rfl
theorem Fz(E:CE)(C:CM)(B:Nat)(out:List bD)(w:World)(h:kD E out w)(R:RH E C B w)(D:E.base<=w.heap.size)(n:Nat)(t:ae)(A:∀(j:Nat) (y:ae),(aM t)[j]? =some y->C.N[n+j]? =some y)(hn:n+aB t<=200000)(hN:out.length+t.kids.length<=1000000)(k:Int):
 Calls Tryz.prog 121 #[.pointer (some ⟨E.cb,0,none⟩),.int .i64 (n:Int),.int .i64 k] w fun e w'=>e= .returned (.tuple #[])/\kD E (out++nA t n k) w'/\CX E.base E.cb w w':=by
 have v:C.N[n]? =some t:=A 0 t (by rw[iK];rfl);obtain⟨x,go,T,c,g,X,-,-,-,-,l,oJ⟩:=kZ R.nd v;have a7:(n:Int)<(E.rn:Int):=by rw[<- R.nn];have:=(acg.1 v).1;omega
 have P:x<w.heap.size:=Nat.lt_of_lt_of_le X R.bw;obtain⟨O, Q⟩:=ag t.kids.length;have a6:O<=1000000:=by omega
 rw[Q]at l
 have z:∀W L,kD E L W->CX E.base E.cb w W->W.cell? ⟨E.cb,0,none⟩=some (.slice (some ⟨x,go,none⟩) E.rn E.rc)/\W.cell? ⟨x,go+n*5+4,none⟩=some (.slice T O c)/\E.cb<W.heap.size/\x<W.heap.size:=fun W L h1 h2=>by
  obtain⟨oA,oc,hC,-⟩:=h1;exact⟨by rw[<- g];exact hC.cell 0,(R.topc h2 g P _).trans l,hC.lt,Nat.lt_of_lt_of_le P h2.size⟩
 have r:=kH z;have I:Hid (t.kids.length=O/\E.base<=w.heap.size/\n+aB t<=200000/\out.length+t.kids.length<=1000000):=kH ⟨Q,D,hn,hN⟩;have HR:=kH R;have M7:=kH A;have HT:=kH v;have HP:=kH h;clear z h R A v Q D hn hN l X P oJ g;go_in
 go_wp2_with fail
 go_loopg [6,7] O (fun gk s6 s7 wr=> ∃j:Nat,j+gk=O/\s6= .int .i64 (j:Int)/\Hid (kD E (out++BZ t n k j) wr/\CX E.base E.cb w wr))
 case atStart=>exact⟨0,by omega,rfl,kH ⟨by unfold BZ;simpa using HP.out,CX.refl _ _ _⟩⟩
 obtain⟨j,hj,rfl,J⟩:=hrel;obtain⟨c0,c1,l0,l1⟩:=r.out wr _ J.out.1 J.out.2;by_cases Y:j<O
 ·have a1:(j:Int)<(O:Int):=by omega
  have T9:IntKind.i64.wrap ((j:Int)+1)=(j:Int)+1:=IntWalk.i64_in _ (by omega);go_wp2_with fail
  refine(xS E C B _ _ J.out.1 (HR.out.cx J.out.2) n j t HT.out (by rw[I.out.1];omega) I.out.2.2.1).mono ?_;rintro e w2 ⟨rfl,U⟩;have S:=kH U;clear U c0 c1 l0 l1;obtain⟨m, f⟩:=ag (n+1+aC (t.kids.take j));rw[f];have b:=kH f;clear f;go_wp2_with fail
  refine(yK k _).mono ?_;rintro e w3 ⟨rfl,V⟩;have u:=S.out.trans (V.mono S.out.size);have H:=J.out.2.trans (CX.of_below u);have A:=DJ (by rw[I.out.1];exact Y) M7.out;rw[b.out]at A;have F:=HR.out.cx H
  have K:(out++BZ t n k j).length<=1000000:=by
   have:=I.out.2.2.2;rw[acm];unfold BZ;rw[List.length_map,List.length_range];have:=I.out.1;omega
  have Z:=yX E _ w3 (J.out.1.below u) K (aca I.out.2.1 H.size) (m:Int) k 0 ⟨#[]⟩ C.N B F.nd F.bw F.nn m _ A;have BK:=kH Z;have bI:=kH H;clear V u H A F K Z;go_wp2_with fail
  refine BK.out.mono ?_;rintro e w4 ⟨rfl,hP,hX⟩
  have HE:Hid (kD E (out++BZ t n k (j+1)) w4/\CX E.base E.cb w w4):=kH ⟨by
   rw[Qk,<- List.append_assoc];unfold gL fV;rw[KU (by rw[I.out.1];exact Y),b.out]
   exact hP,bI.out.trans hX⟩
  clear hP hX;go_wp2_with fail
  go_roundg (gk - 1)
  case measure=>omega
  exact⟨j+1,by omega,by simp,HE⟩
 have sW:j=O:=by omega
 subst sW;go_wp2_with fail
 go_end0
 exact⟨rfl,by have:=J.out.1;unfold nA;unfold BZ at this;rw[I.out.1];exact this,J.out.2⟩
end Go.Proofs.YtoepemlnlpamlaaGreat
