/-
  Trim, of the program and of the definition. The law TrimTrims.
-/
import Derived.Test.YtbelmkceegmdjaaGreatDoorJTL
set_option linter.unusedVariables false
set_option linter.unusedSimpArgs false
set_option linter.unnecessarySimpa false
set_option maxHeartbeats 0
namespace Go.PI.Tryz
open Go.Proofs Go.PI
theorem uJQ:∀ (k:Nat) (n:NodeL) (b:Int) (R:List Int),SizeOf.sizeOf n<k->(vC4 n b R).cnt=n.cnt:=by
 intro k
 induction k with
 | zero=>intro n b R h; omega
 | succ k ih =>
   intro n b R h;rw[zF2,NodeL.cnt_eq,n.cnt_eq,zKQ];show 1+((n.kids.map _).map NodeL.cnt).sum=_
   rw[rCO]
   congr 2
   exact rBJ fun x hx=>ih x _ _ (by have:=NodeL.sizeOf_kid hx; omega)
theorem uDY(n:NodeL)(b:Int)(R:List Int):(vC4 n b R).kids.length=n.kids.length:=by rw[zF2]; exact zIG _ _ _
theorem uDZ:∀ (k:Nat) (n:NodeL) (b:Int) (R:List Int) (d:Nat),SizeOf.sizeOf n<k->vBG d (vC4 n b R)=vBG d n:=by
 intro k
 induction k with
 | zero=>intro n b R d h; omega
 | succ k ih =>
   intro n b R d h;have hl:=uDY n b R;have hs:(vC4 n b R).split=n.split:=by rw[zF2]; rfl
   have he:(vC4 n b R).empty=n.empty:=by rw[zF2]; rfl
   have hp:(vC4 n b R).proof.length=n.proof.length:=by rw[zF2]; show(vBL _ _).length=_; simp[vBL]
   by_cases h0:n.kids.length=0
   .rw[zBS h0,zBS zom]; unfold vED; rw[hs]
   .rw[zA1 h0,zA1 zom]
    congr 1
    .congr 1
     unfold vBV;rw[hl,hs,he,hp]
    .obtain⟨b',R',e⟩:∃ b' R',(vC4 n b R).kids=n.kids.map fun k=>vC4 k b' R':=⟨_,_,by rw[zF2]; exact zKQ _ _ _⟩
     rw[e,List.all_map,rA0,rBF,rBF];have e:∀ x∈n.kids,vBG (d - 1) (vC4 x b' R')=vBG (d - 1) x:=fun x hx=>ih x _ _ _ (by have:=NodeL.sizeOf_kid hx; omega)
     exact⟨fun g x hx=>by have:=g x hx; rw[<- e x hx]; exact this,fun g x hx=>by have:=g x hx; rw[<- e x hx]at this; exact this⟩
theorem vZ1:∀ {R O:List Int} {c b:Int},Asc c R->(∀ r∈R,r<b)->c<=b->Asc b O->Asc c (R++O)
 | [],O,c,b,_,_,hcb,hO=>by
   cases O with
   | nil=>trivial
   | cons x O=>exact⟨Int.le_trans hcb hO.1,hO.2⟩
 | r::R,O,c,b,hR,hlt,hcb,hO=>⟨hR.1,vZ1 hR.2 (fun x hx=>hlt x (rBC _ hx)) (by have:=hlt r zsm; omega) hO⟩
theorem uE7{R:List Int}(h:Asc 0 R){v:Int}(h1:-9223372036854775808<=v)(h2:v<9223372036854775808):-9223372036854775808<=vCL R v/\vCL R v<9223372036854775808:=by
 have hle:vCL R v<=v:=by unfold vCL; omega
 by_cases hv:v<=1
 .rw[vMC h zom]; exact⟨h1,h2⟩
 .have:=vG2 h (by omega:(0:Int)+1<v)
  omega
theorem vOO{R:List Int}(h:Asc 0 R){l:List MultL}(hl:vCT l/\vCK l):vCT (vBL (vB3 R) l)/\vCK (vBL (vB3 R) l):=by
 obtain⟨⟨h1,h2⟩,h3⟩:=hl;refine⟨⟨by simpa [vBL]using h1,fun m hm=>?_⟩,vGS h3⟩;obtain⟨x,hx,rfl⟩:=rA5.1 hm;obtain⟨g1,g2⟩:=h2 x hx;exact⟨⟨uE7 h g1.1.1 g1.1.2,uE7 h g1.2.1 g1.2.2⟩,g2⟩
theorem uJP:∀ (k:Nat) (n:NodeL) (b:Int) (R:List Int),SizeOf.sizeOf n<k->0<=b->Asc 0 R->(∀ r∈R,r<b)->Tok n->Tok (vC4 n b R):=by
 intro k
 induction k with
 | zero=>intro n b R h; omega
 | succ k ih =>
   intro n b R hk hb hR hRb h;have hO:=zFR (ownB n.lemmas n.kids n.proof b) b;have hlt:=zIZ (ownB n.lemmas n.kids n.proof b) b;have hol:(ownB n.lemmas n.kids n.proof b).length=n.lemmas.length:=zEP _ _ _;have hA:=vZ1 hR hRb hb hO
   have hAb:∀ r∈R++vB9 (ownB n.lemmas n.kids n.proof b) b,r<b+n.lemmas.length:=fun r hr=>by
    rcases rAZ.1 hr with hr | hr
    .have:=hRb r hr; omega
    .have:=hlt r hr; omega
   rw[zF2];refine .mk _ (fun m hm=>?_) h.spl (vOO hA h.prf) (by show(vDO _ _ _).length<_; rw[zIG]; exact h.kn) fun x hx=>?_
   .obtain⟨y,hy,rfl⟩:=rA5.1 (show m∈(vBS _ _).map _ from hm)
    have:=h.lem y (zGM _ _ y hy);exact⟨this.1,vOO hA this.2⟩
   .obtain⟨y,hy,rfl⟩:=zNA _ _ _ x hx
    exact ih y _ _ (by have:=NodeL.sizeOf_kid hy; omega) zom hA hAb (h.kid y hy)
theorem vYO{P V v:Nat}:∀ (k:Nat) (n:NodeL) (b:Int) (R:List Int) (c:Nat),SizeOf.sizeOf n<k->NodeZ P V v c n->NodeZ P V v c (vC4 n b R):=by
 intro k
 induction k with
 | zero=>intro n b R c h; omega
 | succ k ih =>
   intro n b R c hk h;have hkl:=zKE n.lemmas (ownB n.lemmas n.kids n.proof b);have hnum:=h.num;rw[zF2];refine .mk v c _ (fun m hm=>?_) (by show((vBS _ _).map _).length<=_; rw[rAM]; omega) (fun m hm=>?_) h.spl (zNB h.prf) fun x hx=>?_
   .obtain⟨y,hy,rfl⟩:=rA5.1 (show m∈(vBS _ _).map _ from hm)
    exact h.val y (zGM _ _ y hy)
   .obtain⟨y,hy,rfl⟩:=rA5.1 (show m∈(vBS _ _).map _ from hm)
    have:=h.lem y (zGM _ _ y hy);exact⟨this.1,zNB this.2⟩
   .obtain⟨y,hy,rfl⟩:=zNA _ _ _ x hx
    refine(ih y _ _ _ (by have:=NodeL.sizeOf_kid hy; omega) (h.kid y hy)).more _ _ _ _ (rAL _) ?_;show _<=c - ((vBS _ _).map _).length
    rw[rAM]; omega
theorem vKE{n:NodeL}(h:n.valid=true):vBO n=vC4 n 0 []:=rAV h
theorem zL2{q:QryL}{P V v:Nat}{n:NodeL}(h:AccT q P V v n):AccT q P V v (vBO n):=by
 obtain⟨g1,g2⟩:=zB0 h.val;rw[vKE h.val];refine⟨zE5 (by rw[uDZ _ _ _ _ _ (rAL _)]; exact g1) (by rw[uJQ _ _ _ _ (rAL _)]; exact g2),h.va,?_,vYO _ _ _ _ _ (rAL _) h.z,uJP _ _ _ _ (rAL _) zom trivial (fun r hr=>by cases hr) h.tok,by have:=(vYN _ n 0 [] (rAL _)).1; have:=h.wt; omega⟩;exact vYP _ n ⟨q,[],[]⟩ ⟨q,[],[]⟩ [] 2048 (rAL _) g1 (uA3 _) (fun k _ hlt hk=>by cases hk) h.bel
theorem uKU{q:QryL}{P V v:Nat}{n:NodeL}(h:AccT q P V v n):AccT q P V v (vCS ⟨q,[],[]⟩ n):=by
 obtain⟨g1,g2⟩:=zB0 h.val;have hc:=vUC _ n ⟨q,[],[]⟩ (rAL _);exact⟨zE5 (vOF _ _ _ _ (rAL _) g1) zom,h.va,vI6 _ _ _ _ (rAL _) g1 h.bel,zNS _ _ _ _ (rAL _) h.z,vLY _ _ _ (rAL _) h.tok,by have:=vI5 _ n ⟨q,[],[]⟩ (rAL _); have:=h.wt; omega⟩
theorem uLO:∀ (f:Nat) (n:NodeL) (S:ScpL),n.cnt<f->(vCS S n).wt=n.wt->vCS S n=n:=by
 intro f
 induction f with
 | zero=>intro n S h; omega
 | succ f ih =>
   intro n S hf hw;cases h:vCP S n with
   | some i =>
     rw[zDK h]at hw;have h1:=zDF (p:=S.path.length) (zB4 h).1;have h2:=vI5 _ (vB4 n i S.path.length) S (rAL _);have h3:=vLJ (p:=S.path.length) (zB4 h).1;omega
   | none =>
     rw[zDL h]at hw ⊢;rw[NodeL.wt_eq,n.wt_eq]at hw;have hw:1+(n.lemmas.map vCH).sum+n.proof.length+(((List.range n.kids.length).map fun i=>vCS (vD2 S n i) n.kids[i]!).map NodeL.wt).sum=1+(n.lemmas.map vCH).sum+n.proof.length+(n.kids.map NodeL.wt).sum:=hw
     have e:n.kids=(List.range n.kids.length).map fun i=>n.kids[i]! := by
      refine rDS zsm fun i h1 h2=>?_
      rw[rD5,rE6,rAT n.kids i h1]
     have key:∀ l:List Nat,(∀ i∈l,i<n.kids.length)->((l.map fun i=>vCS (vD2 S n i) n.kids[i]!).map NodeL.wt).sum<=((l.map fun i=>n.kids[i]!).map NodeL.wt).sum/\(((l.map fun i=>vCS (vD2 S n i) n.kids[i]!).map NodeL.wt).sum=((l.map fun i=>n.kids[i]!).map NodeL.wt).sum->(l.map fun i=>vCS (vD2 S n i) n.kids[i]!)=l.map fun i=>n.kids[i]!):=by
      intro l
      induction l with
      | nil=>intro _; exact⟨rAR _,fun _=>rfl⟩
      | cons a l ihl =>
        intro hl;have ha:=hl a zsm;have h1:=zDX ha;have h2:=vI5 _ n.kids[a]! (vD2 S n a) (rAL _);obtain⟨h3,h4⟩:=ihl fun i hi=>hl i (rBC _ hi)
        simp only[rBN,List.sum_cons];refine⟨zom,fun he=>?_⟩;rw[ih n.kids[a]! (vD2 S n a) zom zom,h4 zom]
     have hk:=(key (List.range n.kids.length) fun i hi=>by simpa using hi).2;rw[<- e]at hk;rw[hk zom];cases n; rfl
noncomputable def vC1(q:QryL)(n:NodeL):NodeL:=vCS ⟨q,[],[]⟩ (vBO n)
noncomputable def vRD:Nat->QryL->NodeL->NodeL
 | 0,_,n=>n
 | f+1,q,n=>if vC1 q n=n then n else vRD f q (vC1 q n)
noncomputable def vD5(q:QryL)(n:NodeL):NodeL:=vRD n.wt q n
noncomputable def vFT(q:QryL)(n:NodeL):NodeL×Int:=if (vCJ q n).2=0 then(vD5 q n,0) else(zeroN,(vCJ q n).2)
theorem zK6{q:QryL}{P V v:Nat}{n:NodeL}(h:AccT q P V v n):AccT q P V v (vC1 q n):=uKU (zL2 h)
theorem vXT{q:QryL}{P V v:Nat}{n:NodeL}(h:AccT q P V v n):(vBO n).wt<=n.wt/\((vBO n).wt=n.wt->vBO n=n):=by
 rw[vKE h.val];exact⟨(vYN _ n 0 [] (rAL _)).1,uNA⟩
theorem zNO{q:QryL}{P V v:Nat}{n:NodeL}(h:AccT q P V v n):(vC1 q n).wt<=n.wt/\(vC1 q n≠n->(vC1 q n).wt<n.wt)/\(vC1 q n=n->vBO n=n):=by
 obtain⟨h1,h2⟩:=vXT h;have h3:=vI5 _ (vBO n) ⟨q,[],[]⟩ (rAL _);have e:vC1 q n=vCS ⟨q,[],[]⟩ (vBO n):=rfl;rw[<- e]at h3;refine⟨zom,fun hne=>?_,fun he=>h2 (by rw[he]at h3; omega)⟩;refine rCG fun hlt=>hne ?_
 have h4:=h2 zom;have h5:=uLO _ (vBO n) ⟨q,[],[]⟩ (rAL _) (by rw[<- e]; omega);rw[e,h5,h4]
theorem zPJ:∀ (f g:Nat) (q:QryL) (P V v:Nat) (n:NodeL),AccT q P V v n->n.wt<=f->n.wt<=g->vRD f q n=vRD g q n
 | 0,g,q,P,V,v,n,h,hf,_=>by have:=n.wt_eq; omega
 | f+1,0,q,P,V,v,n,h,_,hg=>by have:=n.wt_eq; omega
 | f+1,g+1,q,P,V,v,n,h,hf,hg=>by
   unfold vRD
   split
   .rfl
   .rename_i hne
    have:=(zNO h).2.1 hne;exact zPJ f g q P V v _ (zK6 h) zom zom
theorem vLQ{q:QryL}{P V v:Nat}{n:NodeL}(h:AccT q P V v n):vD5 q n=if vC1 q n=n then n else vD5 q (vC1 q n):=by
 unfold vD5;have hw:=n.wt_eq;obtain⟨m,hm⟩:∃ m,n.wt=m+1:=⟨n.wt - 1,zom⟩;rw[hm]
 conv=>lhs; unfold vRD
 split
 .rfl
 .rename_i hne
  have:=(zNO h).2.1 hne;exact zPJ _ _ q P V v _ (zK6 h) zom (rAR _)
theorem vRC{q:QryL}{P V v:Nat}:∀ (f:Nat) (n:NodeL),n.wt<f->AccT q P V v n->AccT q P V v (vD5 q n)/\vC1 q (vD5 q n)=vD5 q n/\(vD5 q n).wt<=n.wt:=by
 intro f
 induction f with
 | zero=>intro n h; omega
 | succ f ih =>
   intro n hf h;rw[vLQ h]
   split
   .rename_i he; exact⟨h,he,rAR _⟩
   .rename_i hne
    have:=(zNO h).2.1 hne;obtain⟨g1,g2,g3⟩:=ih (vC1 q n) zom (zK6 h);exact⟨g1,g2,zom⟩
theorem AccT.inS{q:QryL}{P V v:Nat}{n:NodeL}(h:AccT q P V v n)(hq:szQ q P)(hv:v<=V)(hB:P+2 * V+20<=20000000):inS q P V v n:=⟨hq,hv,hB,h.z,h.tok,h.wt⟩
theorem AccT.tree{q:QryL}{P V v:Nat}{n:NodeL}(h:AccT q P V v n):vCJ q n=([],0):=by
 unfold vCJ;rw[rAV ⟨h.val,h.va⟩,h.bel]
theorem inS.acc{q:QryL}{P V v:Nat}{n:NodeL}(h:inS q P V v n)(ht:(vCJ q n).2=0):AccT q P V v n:=by
 obtain⟨k1,k2,k3⟩:=vLR ht;exact⟨k1,k2,k3,h.z,h.tok,h.wt⟩
theorem AccT.splV{q:QryL}{P V v:Nat}{n:NodeL}(h:AccT q P V v n):splV q n=(vCS ⟨q,[],[]⟩ n,0):=by
 unfold Tryz.splV;rw[h.tree,rAV rfl]
theorem vPA:FO 19 Tryz.f19 [.cell 4 32,.tmp 5] 43:=mkO Tryz.func19 Tryz.ntmps19 Tryz.results19
theorem uJ0(q:QryL)(P V v:Nat)(n:NodeL)(h:inS q P V v n):Fn 19 [vBJ q,vA6 n] (.data (.tup [vA6 (vFT q n).1,.int .i64 (vFT q n).2])):=by
 have ct:=h.tree;unfold vFT;by_cases h0:(vCJ q n).2=0
 .have hA:=h.acc h0
  rw[rAV h0];rw[h0]at ct;refine zAK vBC hT vPA (by simp[vBJ]) ?_;refine sns ?_;refine zAA ct rfl ?_;refine sns ?_;refine zAM hT (fun m:NodeL=>[(2,.cptr (vBJ q) 0),(3,.ptr 0 0 0),(4,.ptr 1 0 0)]) (fun m=>[(0,⟨[vA6 m],9,true⟩),(1,vD9)]) [] 2 (fun m=>AccT q P V v m/\vD5 q m=vD5 q n) NodeL.wt n ⟨hA,rfl⟩ zdd zsm ?_ ?_
  .exact⟨[1,2],[0],[(2,.cptr (vBJ q) 0)],[],⟨⟨⟨_,rfl⟩,rGU⟩,⟨⟨6,[0],zHU rfl rfl,rfl⟩,rGU⟩,rGU⟩,⟨zAG rfl,apx,apx,rGU⟩,⟨bbx,bbx,rGU⟩,rAA⟩
  intro m ⟨hAm,hm⟩;have hSm:=hAm.inS h.q h.hv h.B;have hAl:=zL2 hAm;have hAs:=zK6 hAm;have cl:=zOR m hSm.sm.1 hSm.sm.2 (by have:=hSm.wt; omega);have cs:=zOQ q P V v (vBO m) (hAl.inS h.q h.hv h.B);have e1:=vZR _ m (vBO m) (rAL _) hSm.sm.1;have e2:=vZR _ (vBO m) (vC1 q m) (rAL _) (hAl.inS h.q h.hv h.B).sm.1;obtain⟨w1,w2,w3⟩:=zNO hAm;have te:=vLQ hAm;rw[hAl.splV]at cs;rw[show vCS ⟨q,[],[]⟩ (vBO m)=vC1 q m from rfl]at cs;have back:vC1 q m≠m->∃ i',(AccT q P V v i'/\vD5 q i'=vD5 q n)/\i'.wt<m.wt/\i'=vC1 q m:=fun hne=>⟨_,⟨hAs,by rw[<- hm,te,rAN hne]⟩,w2 hne,rfl⟩
  have same:m=vBO m->vBO m=vC1 q m->vD5 q n=m:=fun h1 h2=>by rw[<- hm,te,rAV (by rw[<- h2,<- h1])]
  have diff:(m≠vBO m\/vBO m≠vC1 q m)->vC1 q m≠m:=fun h he=>by
   have:=w3 he;rcases h with h | h
   .exact h this.symm
   .exact h (by rw[this,he])
  generalize vBO m=a at *
  generalize vC1 q m=b at *
  refine sns ?_;refine zAA cl rfl ?_;refine sns ?_;refine zAA cs rfl ?_;refine sns ?_;refine zAA e1 rfl ?_
  refine gon ?_ ?_<;>intro h
  .have h1:=h
   refine zAA e2 rfl ?_
   refine gon ?_ ?_<;>intro h
   .exact zAB rfl (by rw[same h1 rAC])
   .obtain⟨m',g1,g2,rfl⟩:=back (diff (rAY rAC))
    exact⟨m',⟨g1,g2⟩,[0,1],[],[],[],ttt,⟨zAG rfl,apx,apx,rGU⟩,⟨bbx,bbx,rGU⟩,rAA⟩
  .obtain⟨m',g1,g2,rfl⟩:=back (diff (rAW rAC))
   exact⟨m',⟨g1,g2⟩,[0,1],[],[],[],ttt,⟨zAG rfl,apx,apx,rGU⟩,⟨bbx,bbx,rGU⟩,rAA⟩
 .rw[rAN h0]
  generalize (vCJ q n).2=e at *
  refine zAK vBC hT vPA (by simp[vBJ]) ?_;refine sns ?_;refine zAA ct rfl ?_
  refine gon ?_ ?_<;>intro h
  all_goals try (exfalso; omega)
  exact rGV
theorem zPY:FO 20 Tryz.f20 [.cell 4 32,.tmp 5] 32:=mkO Tryz.func20 Tryz.ntmps20 Tryz.results20
theorem vY8(q:QryL)(P V v:Nat)(n:NodeL)(h:inS q P V v n)(hv:q.g.ins+q.g.units.length<=16):Fn 20 [vBJ q,vA6 n] (.data (.tup [vA6 (vFT q n).1,.int .i64 (vFT q n).2])):=by
 have hB:=h.B;have ct:=vK3 q n P V v h.hv h.q h.sm.1 h.z hB hv;unfold vFT;by_cases h0:(vCJ q n).2=0
 .have hA:=h.acc h0
  rw[rAV h0];rw[h0]at ct;refine zAK vBC hT zPY (by simp[vBJ]) ?_;refine sns ?_;refine zAA ct rfl ?_;refine sns ?_;refine zAM hT (fun m:NodeL=>[(2,.cptr (vBJ q) 0),(3,.ptr 0 0 0),(4,.ptr 1 0 0)]) (fun m=>[(0,⟨[vA6 m],9,true⟩),(1,vD9)]) [] 2 (fun m=>AccT q P V v m/\vD5 q m=vD5 q n) NodeL.wt n ⟨hA,rfl⟩ zdd zsm ?_ ?_
  .exact⟨[1,2],[0],[(2,.cptr (vBJ q) 0)],[],⟨⟨⟨_,rfl⟩,rGU⟩,⟨⟨6,[0],zHU rfl rfl,rfl⟩,rGU⟩,rGU⟩,⟨zAG rfl,apx,apx,rGU⟩,⟨bbx,bbx,rGU⟩,rAA⟩
  intro m ⟨hAm,hm⟩;have hSm:=hAm.inS h.q h.hv h.B;have hAl:=zL2 hAm;have hAs:=zK6 hAm;have cl:=zOV m hSm.sm.1 hSm.sm.2 (by have:=hSm.wt; omega);have cs:=zOX q P V v (vBO m) (hAl.inS h.q h.hv h.B) hv;have e1:=zGU _ (vC1 q m) m (rAL _) (hAs.inS h.q h.hv h.B).sm.1;obtain⟨w1,w2,w3⟩:=zNO hAm;have te:=vLQ hAm;rw[hAl.splV]at cs;rw[show vCS ⟨q,[],[]⟩ (vBO m)=vC1 q m from rfl]at cs;have back:vC1 q m≠m->∃ i',(AccT q P V v i'/\vD5 q i'=vD5 q n)/\i'.wt<m.wt/\i'=vC1 q m:=fun hne=>⟨_,⟨hAs,by rw[<- hm,te,rAN hne]⟩,w2 hne,rfl⟩
  have same:vC1 q m=m->vD5 q n=vC1 q m:=fun h1=>by rw[<- hm,te,rAV h1,h1]
  generalize vBO m=a at *
  generalize vC1 q m=b at *
  refine sns ?_;refine zAA cl rfl ?_;refine sns ?_;refine zAA cs rfl ?_;refine sns ?_;refine zAA e1 rfl ?_
  refine gon ?_ ?_<;>intro h
  .exact zAB rfl (by rw[same rAC])
  .obtain⟨m',g1,g2,rfl⟩:=back rAC
   exact⟨m',⟨g1,g2⟩,[0,1],[],[],[],ttt,⟨zAG rfl,apx,apx,rGU⟩,⟨bbx,bbx,rGU⟩,rAA⟩
 .rw[rAN h0]
  generalize (vCJ q n).2=e at *
  refine zAK vBC hT zPY (by simp[vBJ]) ?_;refine sns ?_;refine zAA ct rfl ?_
  refine gon ?_ ?_<;>intro h
  all_goals try (exfalso; omega)
  exact rGV
theorem uAV{q:QryL}{P V v:Nat}{n:NodeL}(h:inS q P V v n):(vFT q n).1.Sm:=by
 unfold vFT
 split
 .rename_i h0
  exact((vRC _ n (rAL _) (h.acc h0)).1.inS h.q h.hv h.B).sm.1
 .exact zNG
theorem zN4:FO 5 Tryz.f5 [.tmp 4] 56:=mkO Tryz.func5 Tryz.ntmps5 Tryz.results5
theorem vNS(q:QryL)(n:NodeL)(Bq Bn:Nat)(hi:inB q n Bq Bn)(hr:NodeRg n):Fn 5 [vBJ q,vA6 n] (.data (.bool true)):=by
 have hwb:=hi.wt;have hBB:=hi.B;obtain⟨b,hb,cf⟩:=vQV q n zom hi.q.g.1.1 hi.q.r.2.2.2;cases b with
 | true =>
   obtain⟨f1,f2,f3,f4⟩:=hb rfl;have hS:=vX5 hi zom hr;have c1:=uJ0 q _ _ _ n hS;have c2:=vY8 q _ _ _ n hS zom;have ce:=zGU _ (vFT q n).1 (vFT q n).1 (rAL _) (uAV hS);rw[rB1 rfl]at ce;have cp:=vK4 n n [] hi.sm hi.sm zom ⟨zdd,fun d hd=>by cases hd⟩;have cv:=zEC n hi.sm
   have hval:n.valid=true->(vEG n n []).1=n:=fun h=>by
    unfold vEG;rw[h,show vCG n n []=some n from rfl];simp[h]
   have cn:=zGU _ (vEG n n []).1 n (rAL _) (by
    unfold vEG
    split
    .rw[show vCG n n []=some n from rfl]
     dsimp only
     split
     .exact hi.sm
     .exact zNG
    .exact zNG)
   generalize vEG n n []=B at *
   generalize vFT q n=R at *
   refine zAK vBC hT zN4 (by simp[vBJ]) ?_;refine sns ?_;refine zAA zEQ rfl ?_;refine sns ?_;refine zAA cf rfl ?_;refine sns ?_;refine zAA cp rfl ?_;refine sns ?_;refine zAA c1 rfl ?_;refine sns ?_;refine zAA c2 rfl ?_
   refine gon ?_ ?_<;>intro h
   rotate_left
   .exact absurd trivial h
   refine zAA ce rfl ?_;refine sns ?_;refine zAA cv rfl ?_;cases hvv:n.valid with
   | true =>
     rw[hval hvv,rB1 rfl]at cn;rw[hval hvv];refine sns ?_;refine zAA cn rfl ?_;refine sns ?_;exact rGV
   | false =>
     refine sns ?_;exact rGV
 | false =>
   refine zAK vBC hT zN4 (by simp[vBJ]) ?_;refine sns ?_;refine zAA zEQ rfl ?_;refine sns ?_;refine zAA cf rfl ?_;refine sns ?_;refine zAA zEQ rfl ?_;refine sns ?_;exact rGV
end Go.PI.Tryz
