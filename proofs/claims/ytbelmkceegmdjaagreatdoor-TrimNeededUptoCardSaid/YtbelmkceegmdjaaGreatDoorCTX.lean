/-
  Trim, of the program and of the definition. The law TrimTrims.
-/
import Derived.Test.YtbelmkceegmdjaaGreatDoorCTL
set_option linter.unusedVariables false
set_option linter.unusedSimpArgs false
set_option linter.unnecessarySimpa false
set_option maxHeartbeats 0
namespace Go.PI.Tryz
open Go.Proofs Go.PI
theorem vNS:∀ (k:Nat) (n:NodeL) (b:Int) (R:List Int),SizeOf.sizeOf n<k->(vCU n b R).cnt=n.cnt:=by
 intro k
 induction k with
 | zero=>intro n b R h; omega
 | succ k ih =>
   intro n b R h;rw[zD0,NodeL.cnt_eq,n.cnt_eq,zET];show 1+((n.kids.map _).map NodeL.cnt).sum=_
   rw[rB7]
   congr 2
   exact rBH fun x hx=>ih x _ _ (by have:=NodeL.sizeOf_kid hx; omega)
theorem uED(n:NodeL)(b:Int)(R:List Int):(vCU n b R).kids.length=n.kids.length:=by rw[zD0]; exact zK3 _ _ _
theorem uEE:∀ (k:Nat) (n:NodeL) (b:Int) (R:List Int) (d:Nat),SizeOf.sizeOf n<k->vBH d (vCU n b R)=vBH d n:=by
 intro k
 induction k with
 | zero=>intro n b R d h; omega
 | succ k ih =>
   intro n b R d h;have hl:=uED n b R;have hs:(vCU n b R).split=n.split:=by rw[zD0]; rfl
   have he:(vCU n b R).empty=n.empty:=by rw[zD0]; rfl
   have hp:(vCU n b R).proof.length=n.proof.length:=by rw[zD0]; show(vBL _ _).length=_; simp[vBL]
   by_cases h0:n.kids.length=0
   .rw[zBT h0,zBT zom]; unfold vEE; rw[hs]
   .rw[zA2 h0,zA2 zom]
    congr 1
    .congr 1
     unfold vBV;rw[hl,hs,he,hp]
    .obtain⟨b',R',e⟩:∃ b' R',(vCU n b R).kids=n.kids.map fun k=>vCU k b' R':=⟨_,_,by rw[zD0]; exact zET _ _ _⟩
     rw[e,List.all_map,rA1,rBF,rBF];have e:∀ x∈n.kids,vBH (d - 1) (vCU x b' R')=vBH (d - 1) x:=fun x hx=>ih x _ _ _ (by have:=NodeL.sizeOf_kid hx; omega)
     exact⟨fun g x hx=>by have:=g x hx; rw[<- e x hx]; exact this,fun g x hx=>by have:=g x hx; rw[<- e x hx]at this; exact this⟩
theorem uAE:∀ {R O:List Int} {c b:Int},Asc c R->(∀ r∈R,r<b)->c<=b->Asc b O->Asc c (R++O)
 | [],O,c,b,_,_,hcb,hO=>by
   cases O with
   | nil=>trivial
   | cons x O=>exact⟨Int.le_trans hcb hO.1,hO.2⟩
 | r::R,O,c,b,hR,hlt,hcb,hO=>⟨hR.1,uAE hR.2 (fun x hx=>hlt x (rA8 _ hx)) (by have:=hlt r zsm; omega) hO⟩
theorem uFO{R:List Int}(h:Asc 0 R){v:Int}(h1:-9223372036854775808<=v)(h2:v<9223372036854775808):-9223372036854775808<=vCQ R v/\vCQ R v<9223372036854775808:=by
 have hle:vCQ R v<=v:=by unfold vCQ; omega
 by_cases hv:v<=1
 .rw[vMG h zom]; exact⟨h1,h2⟩
 .have:=vG7 h (by omega:(0:Int)+1<v)
  omega
theorem vOW{R:List Int}(h:Asc 0 R){l:List MultL}(hl:vCY l/\vCP l):vCY (vBL (vB5 R) l)/\vCP (vBL (vB5 R) l):=by
 obtain⟨⟨h1,h2⟩,h3⟩:=hl;refine⟨⟨by simpa [vBL]using h1,fun m hm=>?_⟩,uBE h3⟩;obtain⟨x,hx,rfl⟩:=rA5.1 hm;obtain⟨g1,g2⟩:=h2 x hx;exact⟨⟨uFO h g1.1.1 g1.1.2,uFO h g1.2.1 g1.2.2⟩,g2⟩
theorem uJ6:∀ (k:Nat) (n:NodeL) (b:Int) (R:List Int),SizeOf.sizeOf n<k->0<=b->Asc 0 R->(∀ r∈R,r<b)->Tok n->Tok (vCU n b R):=by
 intro k
 induction k with
 | zero=>intro n b R h; omega
 | succ k ih =>
   intro n b R hk hb hR hRb h;have hO:=zFY (ownB n.lemmas n.kids n.proof b) b;have hlt:=zJA (ownB n.lemmas n.kids n.proof b) b;have hol:(ownB n.lemmas n.kids n.proof b).length=n.lemmas.length:=zES _ _ _;have hA:=uAE hR hRb hb hO
   have hAb:∀ r∈R++vCB (ownB n.lemmas n.kids n.proof b) b,r<b+n.lemmas.length:=fun r hr=>by
    rcases rAY.1 hr with hr | hr
    .have:=hRb r hr; omega
    .have:=hlt r hr; omega
   rw[zD0];refine .mk _ (fun m hm=>?_) h.spl (vOW hA h.prf) (by show(vDS _ _ _).length<_; rw[zK3]; exact h.kn) fun x hx=>?_
   .obtain⟨y,hy,rfl⟩:=rA5.1 (show m∈(vBS _ _).map _ from hm)
    have:=h.lem y (zHY _ _ y hy);exact⟨this.1,vOW hA this.2⟩
   .obtain⟨y,hy,rfl⟩:=vIC _ _ _ x hx
    exact ih y _ _ (by have:=NodeL.sizeOf_kid hy; omega) zom hA hAb (h.kid y hy)
theorem vY1{P V v:Nat}:∀ (k:Nat) (n:NodeL) (b:Int) (R:List Int) (c:Nat),SizeOf.sizeOf n<k->NodeZ P V v c n->NodeZ P V v c (vCU n b R):=by
 intro k
 induction k with
 | zero=>intro n b R c h; omega
 | succ k ih =>
   intro n b R c hk h;have hkl:=zHZ n.lemmas (ownB n.lemmas n.kids n.proof b);have hnum:=h.num;rw[zD0];refine .mk v c _ (fun m hm=>?_) (by show((vBS _ _).map _).length<=_; rw[rAM]; omega) (fun m hm=>?_) h.spl (zNS h.prf) fun x hx=>?_
   .obtain⟨y,hy,rfl⟩:=rA5.1 (show m∈(vBS _ _).map _ from hm)
    exact h.val y (zHY _ _ y hy)
   .obtain⟨y,hy,rfl⟩:=rA5.1 (show m∈(vBS _ _).map _ from hm)
    have:=h.lem y (zHY _ _ y hy);exact⟨this.1,zNS this.2⟩
   .obtain⟨y,hy,rfl⟩:=vIC _ _ _ x hx
    refine(ih y _ _ _ (by have:=NodeL.sizeOf_kid hy; omega) (h.kid y hy)).more _ _ _ _ (rAL _) ?_;show _<=c - ((vBS _ _).map _).length
    rw[rAM]; omega
theorem zKN{n:NodeL}(h:n.valid=true):vBN n=vCU n 0 []:=rAV h
theorem zML{q:QryL}{P V v:Nat}{n:NodeL}(h:AccT q P V v n):AccT q P V v (vBN n):=by
 obtain⟨g1,g2⟩:=zB1 h.val;rw[zKN h.val];refine⟨zE9 (by rw[uEE _ _ _ _ _ (rAL _)]; exact g1) (by rw[vNS _ _ _ _ (rAL _)]; exact g2),h.va,?_,vY1 _ _ _ _ _ (rAL _) h.z,uJ6 _ _ _ _ (rAL _) zom trivial (fun r hr=>by cases hr) h.tok,by have:=(vY0 _ n 0 [] (rAL _)).1; have:=h.wt; omega⟩;exact vY2 _ n ⟨q,[],[]⟩ ⟨q,[],[]⟩ [] 2048 (rAL _) g1 (uBG _) (fun k _ hlt hk=>by cases hk) h.bel
theorem uAK{q:QryL}{P V v:Nat}{n:NodeL}(h:AccT q P V v n):AccT q P V v (vCH ⟨q,[],[]⟩ n):=by
 obtain⟨g1,g2⟩:=zB1 h.val;have hc:=vGU _ n ⟨q,[],[]⟩ (rAL _);exact⟨zE9 (vOL _ _ _ _ (rAL _) g1) zom,h.va,vJG _ _ _ _ (rAL _) g1 h.bel,vJF _ _ _ _ (rAL _) h.z,vUG _ _ _ (rAL _) h.tok,by have:=zPZ _ n ⟨q,[],[]⟩ (rAL _); have:=h.wt; omega⟩
theorem uL3:∀ (f:Nat) (n:NodeL) (S:ScpL),n.cnt<f->(vCH S n).wt=n.wt->vCH S n=n:=by
 intro f
 induction f with
 | zero=>intro n S h; omega
 | succ f ih =>
   intro n S hf hw;cases h:vB7 S n with
   | some i =>
     rw[zCE h]at hw;have h1:=zCI (p:=S.path.length) (zBG h).1;have h2:=zPZ _ (vBY n i S.path.length) S (rAL _);have h3:=vGM (p:=S.path.length) (zBG h).1;omega
   | none =>
     rw[zCF h]at hw ⊢;rw[NodeL.wt_eq,n.wt_eq]at hw;have hw:1+(n.lemmas.map vCN).sum+n.proof.length+(((List.range n.kids.length).map fun i=>vCH (vDT S n i) n.kids[i]!).map NodeL.wt).sum=1+(n.lemmas.map vCN).sum+n.proof.length+(n.kids.map NodeL.wt).sum:=hw
     have e:n.kids=(List.range n.kids.length).map fun i=>n.kids[i]! := by
      refine rDA zsm fun i h1 h2=>?_
      rw[rDF,rDY,rAS n.kids i h1]
     have key:∀ l:List Nat,(∀ i∈l,i<n.kids.length)->((l.map fun i=>vCH (vDT S n i) n.kids[i]!).map NodeL.wt).sum<=((l.map fun i=>n.kids[i]!).map NodeL.wt).sum/\(((l.map fun i=>vCH (vDT S n i) n.kids[i]!).map NodeL.wt).sum=((l.map fun i=>n.kids[i]!).map NodeL.wt).sum->(l.map fun i=>vCH (vDT S n i) n.kids[i]!)=l.map fun i=>n.kids[i]!):=by
      intro l
      induction l with
      | nil=>intro _; exact⟨rAO _,fun _=>rfl⟩
      | cons a l ihl =>
        intro hl;have ha:=hl a zsm;have h1:=zC3 ha;have h2:=zPZ _ n.kids[a]! (vDT S n a) (rAL _);obtain⟨h3,h4⟩:=ihl fun i hi=>hl i (rA8 _ hi)
        simp only[rBJ,List.sum_cons];refine⟨zom,fun he=>?_⟩;rw[ih n.kids[a]! (vDT S n a) zom zom,h4 zom]
     have hk:=(key (List.range n.kids.length) fun i hi=>by simpa using hi).2;rw[<- e]at hk;rw[hk zom];cases n; rfl
noncomputable def vC0(q:QryL)(n:NodeL):NodeL:=vCH ⟨q,[],[]⟩ (vBN n)
noncomputable def vRJ:Nat->QryL->NodeL->NodeL
 | 0,_,n=>n
 | f+1,q,n=>if vC0 q n=n then n else vRJ f q (vC0 q n)
noncomputable def vCM(q:QryL)(n:NodeL):NodeL:=vRJ n.wt q n
noncomputable def vLU(q:QryL)(n:NodeL):NodeL×Int:=if (vCK q n).2=0 then(vCM q n,0) else(vC8,(vCK q n).2)
theorem zIW{q:QryL}{P V v:Nat}{n:NodeL}(h:AccT q P V v n):AccT q P V v (vC0 q n):=uAK (zML h)
theorem vX5{q:QryL}{P V v:Nat}{n:NodeL}(h:AccT q P V v n):(vBN n).wt<=n.wt/\((vBN n).wt=n.wt->vBN n=n):=by
 rw[zKN h.val];exact⟨(vY0 _ n 0 [] (rAL _)).1,uNN⟩
theorem zI7{q:QryL}{P V v:Nat}{n:NodeL}(h:AccT q P V v n):(vC0 q n).wt<=n.wt/\(vC0 q n≠n->(vC0 q n).wt<n.wt)/\(vC0 q n=n->vBN n=n):=by
 obtain⟨h1,h2⟩:=vX5 h;have h3:=zPZ _ (vBN n) ⟨q,[],[]⟩ (rAL _);have e:vC0 q n=vCH ⟨q,[],[]⟩ (vBN n):=rfl;rw[<- e]at h3;refine⟨zom,fun hne=>?_,fun he=>h2 (by rw[he]at h3; omega)⟩;refine rCH fun hlt=>hne ?_
 have h4:=h2 zom;have h5:=uL3 _ (vBN n) ⟨q,[],[]⟩ (rAL _) (by rw[<- e]; omega);rw[e,h5,h4]
theorem zPW:∀ (f g:Nat) (q:QryL) (P V v:Nat) (n:NodeL),AccT q P V v n->n.wt<=f->n.wt<=g->vRJ f q n=vRJ g q n
 | 0,g,q,P,V,v,n,h,hf,_=>by have:=n.wt_eq; omega
 | f+1,0,q,P,V,v,n,h,_,hg=>by have:=n.wt_eq; omega
 | f+1,g+1,q,P,V,v,n,h,hf,hg=>by
   unfold vRJ
   split
   .rfl
   .rename_i hne
    have:=(zI7 h).2.1 hne;exact zPW f g q P V v _ (zIW h) zom zom
theorem zLL{q:QryL}{P V v:Nat}{n:NodeL}(h:AccT q P V v n):vCM q n=if vC0 q n=n then n else vCM q (vC0 q n):=by
 unfold vCM;have hw:=n.wt_eq;obtain⟨m,hm⟩:∃ m,n.wt=m+1:=⟨n.wt - 1,zom⟩;rw[hm]
 conv=>lhs; unfold vRJ
 split
 .rfl
 .rename_i hne
  have:=(zI7 h).2.1 hne;exact zPW _ _ q P V v _ (zIW h) zom (rAO _)
theorem zGI{q:QryL}{P V v:Nat}:∀ (f:Nat) (n:NodeL),n.wt<f->AccT q P V v n->AccT q P V v (vCM q n)/\vC0 q (vCM q n)=vCM q n/\(vCM q n).wt<=n.wt:=by
 intro f
 induction f with
 | zero=>intro n h; omega
 | succ f ih =>
   intro n hf h;rw[zLL h]
   split
   .rename_i he; exact⟨h,he,rAO _⟩
   .rename_i hne
    have:=(zI7 h).2.1 hne;obtain⟨g1,g2,g3⟩:=ih (vC0 q n) zom (zIW h);exact⟨g1,g2,zom⟩
theorem AccT.inS{q:QryL}{P V v:Nat}{n:NodeL}(h:AccT q P V v n)(hq:szQ q P)(hv:v<=V)(hB:P+2 * V+20<=20000000):inS q P V v n:=⟨hq,hv,hB,h.z,h.tok,h.wt⟩
theorem AccT.tree{q:QryL}{P V v:Nat}{n:NodeL}(h:AccT q P V v n):vCK q n=([],0):=by
 unfold vCK;rw[rAV ⟨h.val,h.va⟩,h.bel]
theorem inS.acc{q:QryL}{P V v:Nat}{n:NodeL}(h:inS q P V v n)(ht:(vCK q n).2=0):AccT q P V v n:=by
 obtain⟨k1,k2,k3⟩:=vT4 ht;exact⟨k1,k2,k3,h.z,h.tok,h.wt⟩
theorem AccT.splV{q:QryL}{P V v:Nat}{n:NodeL}(h:AccT q P V v n):splV q n=(vCH ⟨q,[],[]⟩ n,0):=by
 unfold Tryz.splV;rw[h.tree,rAV rfl]
theorem vPI:FO 19 Tryz.f19 [.cell 4 32,.tmp 5] 43:=mkO Tryz.func19 Tryz.ntmps19 Tryz.results19
theorem vIF(q:QryL)(P V v:Nat)(n:NodeL)(h:inS q P V v n):Fn 19 [vBI q,vA7 n] (.data (.tup [vA7 (vLU q n).1,.int .i64 (vLU q n).2])):=by
 have ct:=h.tree;unfold vLU;by_cases h0:(vCK q n).2=0
 .have hA:=h.acc h0
  rw[rAV h0];rw[h0]at ct;refine zAM vBC hT vPI (by simp[vBI]) ?_;refine sns ?_;refine zAA ct rfl ?_;refine sns ?_;refine zAO hT (fun m:NodeL=>[(2,.cptr (vBI q) 0),(3,.ptr 0 0 0),(4,.ptr 1 0 0)]) (fun m=>[(0,⟨[vA7 m],9,true⟩),(1,vFF)]) [] 2 (fun m=>AccT q P V v m/\vCM q m=vCM q n) NodeL.wt n ⟨hA,rfl⟩ zdd zsm ?_ ?_
  .exact⟨[1,2],[0],[(2,.cptr (vBI q) 0)],[],⟨⟨⟨_,rfl⟩,rGW⟩,⟨⟨6,[0],zJF rfl rfl,rfl⟩,rGW⟩,rGW⟩,⟨zAH rfl,apx,apx,rGW⟩,⟨bbx,bbx,rGW⟩,rAA⟩
  intro m ⟨hAm,hm⟩;have hSm:=hAm.inS h.q h.hv h.B;have hAl:=zML hAm;have hAs:=zIW hAm;have cl:=zO3 m hSm.sm.1 hSm.sm.2 (by have:=hSm.wt; omega);have cs:=zO2 q P V v (vBN m) (hAl.inS h.q h.hv h.B);have e1:=vZ4 _ m (vBN m) (rAL _) hSm.sm.1;have e2:=vZ4 _ (vBN m) (vC0 q m) (rAL _) (hAl.inS h.q h.hv h.B).sm.1;obtain⟨w1,w2,w3⟩:=zI7 hAm;have te:=zLL hAm;rw[hAl.splV]at cs;rw[show vCH ⟨q,[],[]⟩ (vBN m)=vC0 q m from rfl]at cs;have back:vC0 q m≠m->∃ i',(AccT q P V v i'/\vCM q i'=vCM q n)/\i'.wt<m.wt/\i'=vC0 q m:=fun hne=>⟨_,⟨hAs,by rw[<- hm,te,rAN hne]⟩,w2 hne,rfl⟩
  have same:m=vBN m->vBN m=vC0 q m->vCM q n=m:=fun h1 h2=>by rw[<- hm,te,rAV (by rw[<- h2,<- h1])]
  have diff:(m≠vBN m\/vBN m≠vC0 q m)->vC0 q m≠m:=fun h he=>by
   have:=w3 he;rcases h with h | h
   .exact h this.symm
   .exact h (by rw[this,he])
  generalize vBN m=a at *
  generalize vC0 q m=b at *
  refine sns ?_;refine zAA cl rfl ?_;refine sns ?_;refine zAA cs rfl ?_;refine sns ?_;refine zAA e1 rfl ?_
  refine gon ?_ ?_<;>intro h
  .have h1:=h
   refine zAA e2 rfl ?_
   refine gon ?_ ?_<;>intro h
   .exact zAB rfl (by rw[same h1 rAC])
   .obtain⟨m',g1,g2,rfl⟩:=back (diff (rAZ rAC))
    exact⟨m',⟨g1,g2⟩,[0,1],[],[],[],ttt,⟨zAH rfl,apx,apx,rGW⟩,⟨bbx,bbx,rGW⟩,rAA⟩
  .obtain⟨m',g1,g2,rfl⟩:=back (diff (rAW rAC))
   exact⟨m',⟨g1,g2⟩,[0,1],[],[],[],ttt,⟨zAH rfl,apx,apx,rGW⟩,⟨bbx,bbx,rGW⟩,rAA⟩
 .rw[rAN h0]
  generalize (vCK q n).2=e at *
  refine zAM vBC hT vPI (by simp[vBI]) ?_;refine sns ?_;refine zAA ct rfl ?_
  refine gon ?_ ?_<;>intro h
  all_goals try (exfalso; omega)
  exact rGX
end Go.PI.Tryz
