/- Collect agrees with the reference. Part 18: OpenT HoldC. -/
import Derived.Test.YtoepemlnlpamlaaGreatColl17
set_option maxRecDepth 100000
set_option maxHeartbeats 4000000
namespace Go.Proofs.YtoepemlnlpamlaaGreat
open Go.ChangeShapes Go.WideShapes Go.ChangeAt Go.RowKit Go.Deep
theorem Tj{E:Type}{p:Nat->E->Prop}:∀m:Nat,(∀i,i<m->∃x,p i x)->∃l:List E,l.length=m/\∀i x,l[i]? =some x->p i x:=by
 intro m
 induction m with
 | zero=>intro _;exact⟨[],rfl,fun i x h=>by simp at h⟩
 | succ m ih=>
  intro h;obtain⟨l,D,F⟩:=ih (fun i C=>h i (by omega));obtain⟨x,G⟩:=h m (by omega);refine⟨l++[x],by simp[D],fun i y A=>?_⟩;by_cases C:i<l.length
  ·rw[List.getElem?_append_left C]at A
   exact F i y A
  have B:i=m:=by
   have:=(acg.1 A).1;simp at this;omega
  subst B;rw[ack (by omega),D,Nat.sub_self]at A;simp at A;subst A;exact G
theorem list5{A:Type}{l:List A}(h:l.length=5):∃a b c d e,l=[a,b,c,d,e]:=by
 match l,h with
 | [a,b,c,d,e],_=>exact⟨a,b,c,d,e,rfl⟩
section
variable {H:Type}{enc:TypeId×Value->H}{w:World}
theorem PE:∀(l:List ae) (ds:List (DataW H)),l.length=ds.length->(∀(i:Nat) (t:ae) (d:DataW H),l[i]? =some t->ds[i]? =some d->6*aB t<=Rows.uptoBulk d)->6*aC l<=Rows.uptoBulkAll ds
 | [],_,_,_=>by simp[aC]
 | t::l,[],h,_=>by simp at h
 | t::l,d::ds,h,hp=>by
  have C:=hp 0 t d rfl rfl;have D:=PE l ds (by simpa using h) (fun i t d B A=>hp (i+1) t d (by simpa using B) (by simpa using A));simp only[aC,Rows.uptoBulkAll];omega
theorem Bh(d:DataW H):1<=Rows.uptoBulk d:=by
 cases d with
 | lit l=>cases l<;>simp[Rows.uptoBulk]
 | nil=>simp[Rows.uptoBulk]
 | ptr d=>simp[Rows.uptoBulk]
 | slice elems spare=>simp[Rows.uptoBulk]
 | agg parts=>simp[Rows.uptoBulk]
 | iface t d=>simp[Rows.uptoBulk]
 | map entries=>simp[Rows.uptoBulk]
 | held h=>simp[Rows.uptoBulk]
theorem XT{d:DataW H}{l:List (DataW H)}(h:d∈l):Rows.uptoBulk d<=Rows.uptoBulkAll l:=by
 induction l with
 | nil=>cases h
 | cons x r ih=>
  simp only[Rows.uptoBulkAll]
  cases List.mem_cons.1 h with
  | inl e=>subst e;omega
  | inr e=>have:=ih e;omega
theorem Tryz.Oh:Tryz.prog.cellsOf 24=5:=by kernel_rfl
theorem Tryz.abD:Tryz.prog.cellsOf 3=1:=by kernel_rfl
theorem Tryz.abC:Tryz.prog.cellsOf 9=1:=by kernel_rfl
theorem Tryz.Y9:Tryz.prog.cellsOf 22=1:=by kernel_rfl
theorem XU:∀(N:Nat) {fuel:Nat}{S:List Value}{x:DataW H×List MemPlace},DataW.trod enc Tryz.prog w 0 (fun _=>true) true fuel 24 S=some x->Rows.uptoBulk x.1<=N->∃t:ae,jH w w.heap.size t S/\6*aB t<=Rows.uptoBulk x.1:=by
 intro N
 induction N with
 | zero=>
  intro fuel S x h y;obtain⟨xs,n,-,rfl,-⟩:=DataW.trod_struct Tryz.underlying24 h;simp[Rows.uptoBulk]at y
 | succ N ih=>
  intro fuel S x h y;obtain⟨xs,n,-,rfl,hl,a7,O⟩:=DataW.trod_struct Tryz.underlying24 h;rw[Tryz.Oh]at hl;obtain⟨c0,c1,c2,c3,c4,rfl⟩:=list5 hl;obtain⟨T,U,V,W,K,rfl⟩:=list5 (l:=xs) (by rw[a7];rfl);have g0:=O 0 _ rfl;have g1:=O 1 _ rfl;have g2:=O 2 _ rfl;have g3:=O 3 _ rfl;have g4:=O 4 _ rfl;simp[Tryz.abD,Tryz.abC,Tryz.Y9]at g0 g1 g2 g3 g4;obtain⟨k,k0,-,-⟩:=DataW.trod_int Tryz.underlying3 g0;obtain⟨tx,k1,-,-⟩:=DataW.trod_string Tryz.underlying9 g1;obtain⟨a,k2,-,-⟩:=DataW.trod_int Tryz.underlying3 g2;obtain⟨z,k3,-,-⟩:=DataW.trod_int Tryz.underlying3 g3;simp only[List.cons.injEq,and_true]at k0 k1 k2 k3;subst k0 k1 k2 k3
  have an:Rows.uptoBulk K.1+5<=Rows.uptoBulk (DataW.agg (List.map (·.1) [T,U,V,W,K])):=by
   have q0:=Bh T.1;have q1:=Bh U.1;have q2:=Bh V.1;have q3:=Bh W.1;simp only[Rows.uptoBulk,Rows.uptoBulkAll,List.map_cons,List.map_nil];omega
  have TZ:=Bh K.1;have aa:Rows.uptoBulk (DataW.agg (List.map (·.1) [T,U,V,W,K]))<=N+1:=y;have P:∀t:ae,6*aB t<=Rows.uptoBulk K.1+5->6*aB t<=Rows.uptoBulk (DataW.agg (List.map (·.1) [T,U,V,W,K])):=fun t h=>by omega
  rcases open_slice Tryz.underlying22 g4 with⟨B,hx⟩| ⟨ad,A,a8,m,n',D,Pl,B,hb,al,hm,R,hx,hi⟩
  ·simp at B
   subst B;exact⟨.node k tx a z [],⟨none,0,rfl,ab9 _,trivial⟩,P _ (by simp only[aB,aC];omega)⟩
  simp at B;subst B;simp only[if_true]at R;subst R;rw[Tryz.Oh]at hi
  have ab:Rows.uptoBulkAll ((List.range A).map D)+1<=Rows.uptoBulk K.1:=by
   rw[hx];simp only[Rows.uptoBulk];omega
  have c:∀i,i<A->∃t:ae,6*aB t<=Rows.uptoBulk (D i)/\∃vals,jH w w.heap.size t vals/\∀j u,vals[j]? =some u->w.cell? (ad.add (i*5+j))=some u:=fun i E=>by
   obtain⟨X,hc,M⟩:=hi i (by omega);have af:Rows.uptoBulk (D i)<=Rows.uptoBulkAll ((List.range A).map D):=XT (List.mem_map.2 ⟨i,List.mem_range.2 E,rfl⟩);have f:Rows.uptoBulk (D i)<=N:=by omega
   obtain⟨t,L,h2⟩:=ih M f;refine⟨t,h2,X,L,fun j u hj=>?_⟩;obtain⟨A5,c5,Z,-⟩:=L.five
   have a6:j<5:=by
    have:=(acg.1 hj).1;rw[Z]at this;simpa using this
   have:=(World.cells?_some hc).2.2 j a6;rw[hj,Go.Deep.add_add]at this;exact this
  obtain⟨l,F,G⟩:=Tj A c
  have a1:6*aC l<=Rows.uptoBulkAll ((List.range A).map D):=PE l _ (by simp[F]) fun i t d M f=>by
   have E:i<A:=by rw[<- F];exact(acg.1 M).1
   have:d=D i:=by simpa [E] using f.symm
   rw[this];exact(G i t M).1
  obtain⟨b,J,C⟩:=ad;refine⟨.node k tx a z l,⟨some ⟨b,J,C⟩,m,by rw[F],by omega,?_⟩,P _ (by simp only[aB];omega)⟩
  cases Q:l with
  | nil=>trivial
  | cons t0 l0=>
   obtain⟨-,vals,r,hv⟩:=G 0 t0 (by rw[Q];rfl);obtain⟨A5,c5,Z,-⟩:=r.five;have Y:=hv 0 _ (by rw[Z];rfl);have I:C=none:=by simpa [Addr.add] using World.cell?_spot Y
   subst I
   have g:b<w.heap.size:=by
    rcases Nat.lt_or_ge b w.heap.size with L|L
    ·exact L
    rw[Addr.add_lit]at Y;simp[World.cell?,Array.getElem?_eq_none L]at Y
   rw[<- Q];refine aD.mk g fun j t M=>?_
   obtain⟨-,vals,r,hv⟩:=G j t M;refine⟨vals,fun q v hq=>?_,r⟩;have:=hv q v hq;rw[Addr.add_lit]at this;rw[show J+(0+j)*5+q=J+(j*5+q) by omega];exact this
end
end Go.Proofs.YtoepemlnlpamlaaGreat
namespace Go.Proofs.YtoepemlnlpamlaaGreat
open Go.ChangeShapes Go.WideShapes Go.ChangeAt Go.RowKit Go.Joins Go.ChangeMaps
theorem L6(T:Os)(B:T.Started)(H:Type)(enc:TypeId×Value->H)(F:Stop.Interp):
 ReturnsInHanded {} Tryz.checked T 9 .any ((Rows.OpenSpec.upto Rows.constraintsCollectsSpec).pre6 enc Tryz.prog Tryz.f9 Rows.constraintsCollectsUptoRow.domain false) (((Rows.OpenSpec.upto Rows.constraintsCollectsSpec).at F).post enc Tryz.prog Tryz.f9 false true false false):=by
 refine returnsInHanded_of_cond (C:=Tryz.checked) (s:=Rows.OpenSpec.upto Rows.constraintsCollectsSpec) (k:=Rows.uptoSmall) rfl Tryz.own B (by kernel_rfl) Tryz.func9
  (OpenSpec.witness (enc:=enc) (C:=Tryz.checked) (s:=Rows.OpenSpec.upto Rows.constraintsCollectsSpec) (k:=Rows.uptoSmall) rfl false ⟨#[],#[.agg #[.int .i64 0,.string ⟨#[]⟩,.int .i64 0,.int .i64 0,.slice none 0 0]],[]⟩ 8 (by kernel_rfl) (by kernel_rfl) (by kernel_rfl)
   (x:=([.agg [.lit (.int .i64 0),.lit (.string []),.lit (.int .i64 0),.lit (.int .i64 0),.nil]],[],[])) (by kernel_rfl) rfl (by kernel_rfl)) ?_
 intro W base args ds b I E S _ n _;have D:∀(j:Nat) t v,Tryz.f9.params[j]? =some t->args[j]? =some v->Value.okWide Tryz.prog W .any base t v:=E;have K:=S;obtain⟨p,q,J,Y,rfl,r,m⟩:=S;have Q:DataW.TrodAll enc Tryz.prog W 0 (fun _=>true) true Tryz.f9.params.toList args.toList ds p:=J;rw[Tryz.params9]at Q D;obtain⟨U,f,P,V,p0,q0,L,rfl,rfl,X,g⟩:=trodAll_cons Q;obtain⟨rfl,rfl,rfl⟩:=trodAll_nil g;obtain rfl:args= #[U]:=by cases args;simp_all
 obtain⟨rfl,rfl⟩:=trodVars_none Y;obtain⟨O,rfl,-⟩:=okWide_struct Tryz.underlying24 (D 0 24 U rfl rfl);obtain⟨fuel,u⟩:=X;obtain⟨t,R,z⟩:=XU _ u (ab9 _);obtain⟨A,c,N,l⟩:=R.five
 have G:O= #[.int .i64 t.kind,.string t.text,.int .i64 t.at_,.int .i64 t.end_,.slice A t.kids.length c]:=by
  cases O
  simpa [Value.cells] using N
 subst G;have M:Rows.uptoBulkAll ([P]++[])<=1048576:=of_decide_eq_true n;simp only[List.append_nil,Rows.uptoBulkAll]at M;refine(K8 t A c W (by have:6*aB t<=Rows.uptoBulk P:=z;omega) R.cap l).mono fun e d ⟨y,Z⟩=>?_
 subst y;exact⟨_,rfl,aaD Tryz.laidOut K rfl (by kernel_rfl) rfl (by kernel_rfl) Tryz.underlying4 Z⟩
theorem constraintsCollectsUpto_holds:Rows.ConstraintsCollectsUptoSaid:=
 OpenClaim.holds_of_cond 9 Tryz.f9 rfl rfl rfl rfl rfl rfl rfl ⟨rfl,rfl,rfl,rfl,rfl⟩ rfl rfl rfl rfl rfl (by kernel_rfl) Tryz.func9 (by kernel_rfl)
  (of_decide_eq_true (by kernel_rfl)) (by unfold Func.isWrapper;first|(rw[if_pos (by decide+kernel)];kernel_rfl)|(rw[if_neg (by decide+kernel)];exact⟨rfl,rfl⟩))
  (fun B A H enc _ F=>L6 B A H enc F)
end Go.Proofs.YtoepemlnlpamlaaGreat
