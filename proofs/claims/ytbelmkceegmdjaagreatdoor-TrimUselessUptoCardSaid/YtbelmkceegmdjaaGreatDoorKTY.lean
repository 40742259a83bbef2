/-
  The law TrimUseless.
-/
import Derived.Test.YtbelmkceegmdjaaGreatDoorKTX
set_option linter.unusedVariables false
set_option linter.unusedSimpArgs false
set_option maxHeartbeats 0
namespace Go.PI.Tryz
open Go.Proofs Go.PI
def vHN(m:NodeL):NodeL:=.mk (m.lemmas++[m.lemmas[m.lemmas.length - 1]!]) m.split m.kids m.empty m.proof
theorem vT4{q:QryL}{P V v:Nat}:∀ (f:Nat) (n:NodeL),n.wt<f->AccT q P V v n->n.kids.length=0->(vDK q n).kids.length=0:=by
 intro f
 induction f with
 | zero=>intro n h; omega
 | succ f ih =>
   intro n hf h hk;rw[zHG h];have hl:(vBO n).kids.length=0:=by rw[zFE h.val,vP6]; exact hk
   have hs:vCW q n=vBO n:=zE8 hl
   split
   .exact hk
   .rename_i hne
    have:=(zHM h).2.1 hne;exact ih _ zom (zIS h) (by rw[hs]; exact hl)
theorem uJN{c:NodeL}(hl:0<c.lemmas.length):(vHN c).wt<=2 * c.wt:=by
 have hlast:c.lemmas[c.lemmas.length - 1]! ∈ c.lemmas:=get_mem zom;have h1:=c.wt_eq;rw[NodeL.wt_eq];show 1+((c.lemmas++[c.lemmas[c.lemmas.length - 1]!]).map vCD).sum+c.proof.length+(c.kids.map NodeL.wt).sum<=_
 rw[rBE,rED];have h2:vCD c.lemmas[c.lemmas.length - 1]! <= (c.lemmas.map vCD).sum:=zF0 hlast;simp only[rBM,rEQ,List.sum_cons,List.sum_nil];omega
theorem uDN{q:QryL}{P V v:Nat}{c:NodeL}(h:AccT q P V v c)(hk:c.kids.length=0)(hl:0<c.lemmas.length)(hw:c.wt<=500000):AccT q P V v (vHN c):=by
 have hlast:c.lemmas[c.lemmas.length - 1]! ∈ c.lemmas:=get_mem zom;obtain⟨g1,g2⟩:=zBS h.val;have e0:c.kids=[]:=rAZ.1 hk;have hk':(vHN c).kids.length=0:=hk;have hlw:=zGN c.lemmas;have hw1:=c.wt_eq;refine⟨zEA ?_ ?_,h.va,zEE (vSX (zFT h.bel) hk hl rfl rfl rfl rfl) hk',?_,?_,by have:=uJN hl; omega⟩
 .rw[zBI hk'] 
  rw[zBI hk]at g1;exact g1
 .rw[zG3 hk']; omega
 .refine .mk v _ _ (fun l hm=>?_) (by show(c.lemmas++[_]).length<=_; rw[rAV,List.length_singleton]; omega) (fun l hm=>?_) h.z.spl h.z.prf (fun x hx=>?_)
  .rcases rAX.1 (show l∈c.lemmas++[_] from hm) with hm | hm
   .exact h.z.val l hm
   .rw[rBI.1 hm]; exact h.z.val _ hlast
  .rcases rAX.1 (show l∈c.lemmas++[_] from hm) with hm | hm
   .exact h.z.lem l hm
   .rw[rBI.1 hm]; exact h.z.lem _ hlast
  .have hx:x∈c.kids:=hx
   rw[e0]at hx; cases hx
 .refine .mk _ (fun l hm=>?_) h.tok.spl h.tok.prf h.tok.kn (fun x hx=>h.tok.kid x hx)
  rcases rAX.1 (show l∈c.lemmas++[_] from hm) with hm | hm
  .exact h.tok.lem l hm
  .rw[rBI.1 hm]; exact h.tok.lem _ hlast
theorem vXU{q:QryL}{P V v:Nat}{c:NodeL}(h:AccT q P V v c)(hk:c.kids.length=0)(hfix:vCW q c=c)(hm:AccT q P V v (vHN c)):vDK q (vHN c)=c:=by
 have hl:vBO c=c:=(zHM h).2.2 hfix
 have e1:vCW q (vHN c)=c:=by
  have:vBO (vHN c)=c:=by
   rw[zFE hm.val];rw[zFE h.val]at hl;have hr:=zFT h.bel;obtain⟨l,s,ks,e,p⟩:=c;obtain rfl:ks=[]:=rAZ.1 hk;exact uDM rfl hr hl
  show vCS _ (vBO (vHN c))=c
  rw[this,zE8 hk]
 rw[zHG hm,e1]
 split
 .rename_i he; exact he.symm
 .rw[zHG h,rAU hfix]
def vCV(d:DecL)(c:NodeL):NodeL:=.mk [] d [c,c] false []
theorem vJC{f:RowL->RowL}{l:List MultL}(h:∀ m∈l,f m.row=m.row):vBL f l=l:=by
 unfold vBL;have:l.map (fun m:MultL=>(⟨f m.row,m.coef⟩:MultL))=l.map id:=rBH fun m hm=>by rw[h m hm]; rfl
 rw[this,rEV]
theorem vO8{S:ScpL}{l:List MultL}(hp:S.path=[])(h:okM S l l.length):∀ m∈l,m.row.kind≠4:=fun m hm=>by
 obtain⟨i,hi,rfl⟩:=rA8 hm;have:=(h i hi).2.2.2;rw[rAT l i hi]at this;exact uBO hp this
theorem vKG{q:QryL}{c:NodeL}(h:vCJ ⟨q,[],[]⟩ c)(hk:c.kids.length=0):(∀ m∈c.lemmas,∀ x∈m.proof,x.row.kind≠4)/\∀ x∈c.proof,x.row.kind≠4:=by
 obtain⟨h1,h2⟩:=vKF h hk;refine⟨fun m hm=>?_,vO8 rfl h2⟩;obtain⟨i,hi,rfl⟩:=rA8 hm;have:=h1 i hi;rw[rAT c.lemmas i hi]at this;exact vO8 rfl this
theorem vP9{p:Int}{r:RowL}(h:r.kind≠4):vCM (-1) p r=r:=by
 unfold vCM;rw[rAM (fun e=>h e.2),rAM zom,rAM zom]
theorem uDT{q:QryL}{c:NodeL}(h:vCJ ⟨q,[],[]⟩ c)(hk:c.kids.length=0)(p:Int):vCO (vCM (-1) p) c=c:=by
 obtain⟨h1,h2⟩:=vKG h hk;obtain⟨l,s,ks,e,pr⟩:=c;obtain rfl:ks=[]:=rAZ.1 hk
 have e1:l.map (vC1 (vCM (-1) p))=l.map id:=rBH fun m hm=>by
  unfold vC1;rw[vJC fun x hx=>vP9 (h1 m hm x hx)]; rfl
 have e2:vBL (vCM (-1) p) pr=pr:=vJC fun x hx=>vP9 (h2 x hx)
 unfold vCO;rw[e1,e2,rEV]; rfl
theorem uDY{p:Int}{r:RowL}(h:r.kind≠4):isP p r=false:=by
 unfold isP;simp[h]
theorem uJS{q:QryL}{c:NodeL}(h:vCJ ⟨q,[],[]⟩ c)(hk:c.kids.length=0)(p:Int):onN c p=false:=by
 obtain⟨h1,h2⟩:=vKG h hk;have e0:c.kids=[]:=rAZ.1 hk
 have hp:∀ l:List MultL,(∀ x∈l,x.row.kind≠4)->vC5 l p=false:=fun l hl=>by
  unfold vC5;rw[rC8];intro x hx;rw[uDY (hl x hx)]; decide
 rw[zPG,e0,hp _ h2,rC8.2 fun m hm=>by rw[hp _ (h1 m hm)]; decide];rfl
theorem vRD{q:QryL}{P V v:Nat}{d:DecL}{c:NodeL}(h:AccT q P V v c)(hk:c.kids.length=0)(hfix:vCW q c=c)(ht:AccT q P V v (vCV d c)):vDK q (vCV d c)=c:=by
 have hl:vBO c=c:=(zHM h).2.2 hfix;have hr:=zFT h.bel
 have e0:vBO (vCV d c)=vCV d c:=by
  rw[zFE ht.val];rw[zFE h.val]at hl;have:vC3 (vCV d c) 0 []=.mk [] d [vC3 c 0 [],vC3 c 0 []] false []:=rfl;rw[this,hl]; rfl
 have e1:vBZ (vCV d c) 0 (([]:List DecL).length:Nat)=c:=by
  have:vBZ (vCV d c) 0 (([]:List DecL).length:Nat)=.mk ([]++(vCO (vCM (-1) 0) c).lemmas) (vCO (vCM (-1) 0) c).split (vCO (vCM (-1) 0) c).kids (vCO (vCM (-1) 0) c).empty (vCO (vCM (-1) 0) c).proof:=rfl;rw[this,uDT hr hk];cases c; rfl
 have hg:vDI ⟨q,[],[]⟩ (vCV d c) 0=true:=by
  unfold vDI;show(!onN c 0 && (vBE ⟨q,[],[]⟩ (vBZ (vCV d c) 0 (([]:List DecL).length:Nat))).isNone)=true
  rw[e1,uJS hr hk,h.bel]; rfl
 have hf:vCL ⟨q,[],[]⟩ (vCV d c)=some 0:=zKI (by show 0<2; omega) hg fun j hj=>by omega
 have e2:vCW q (vCV d c)=c:=by
  show vCS _ (vBO (vCV d c))=c
  rw[e0,zC4 hf];show vCS ⟨q,[],[]⟩ (vBZ (vCV d c) 0 (([]:List DecL).length:Nat))=c
  rw[e1,zE8 hk]
 rw[zHG ht,e2]
 split
 .rename_i he; exact he.symm
 .rw[zHG h,rAU hfix]
theorem uA7{q:QryL}{P V v:Nat}{d:DecL}{c:NodeL}(h:inS q P V v c)(hd:okQ P d.rat)(hds:d.sm)(hw:c.wt<=500000):inS q P V v (vCV d c):=by
 have hB:=h.B;have hz:vKY P V []:=⟨⟨zsm,fun m hm=>by cases hm⟩,by simp[vEM]; omega⟩;refine⟨h.q,h.hv,h.B,.mk v _ _ (fun m hm=>by cases hm) (rA7 _) (fun m hm=>by cases hm) hd hz (fun k hk=>?_),.mk _ (fun m hm=>by cases hm) hds ⟨⟨by show 0<_; omega,fun m hm=>by cases hm⟩,?_⟩ (by show 2<_; omega) (fun k hk=>?_),?_⟩
 .have hk:k∈[c,c]:=hk
  simp at hk;rw[hk];exact h.z
 .exact⟨by simp[vCV,NodeL.proof],fun m hm=>by cases hm⟩
 .have hk:k∈[c,c]:=hk
  simp at hk;rw[hk];exact h.tok
 .rw[NodeL.wt_eq]
  show 1+(([]:List LemL).map vCD).sum+0+([c,c].map NodeL.wt).sum<=_
  simp only[rBM,rEQ,List.sum_cons,List.sum_nil];omega
theorem uD0{q:QryL}{n:NodeL}{Bq Bn Bd:Nat}(h:inB q n Bq Bn)(hw:n.wt<=400)(hr:NodeRg n)(hB:Bq+Bn+Bd<=1048590):inS q (Bq+n.tot spF+Bd) (n.tot vlF) (n.tot uF) n:=by
 have hb:=uOI n;have hvl:=uFH n;have hbk:=h.bk;exact⟨h.q.le zom,zom,zom,vPG _ n _ (rAL _) h.ok hw zom zom (rAR _) zom zom,uFL _ _ (rAL _) h.sm hr,zom⟩
theorem zKE{h:Hp}{m r len sz:Nat}{g:Bool}{d:DecL}{c:NodeL}(hr:h r=some ⟨[vA7 c,vA7 c],sz,g⟩)(hl:len=2) :
 frz h (m+4) (.agg [.nilsl,.int .i64 d.kind,.int .i64 d.index,.bool d.rat.neg,vBK d.rat.num,vBK d.rat.den,.own r 0 len,.bool false,.nilsl])=some (vA7 (vCV d c),[r]) :=
 zBZ (zAD (ks:=[]) rfl (zAD (ks:=[]) rfl (zAD (ks:=[]) rfl (zAD (ks:=[]) rfl (zAD (ks:=[]) rfl (zAD (ks:=[]) rfl (zAD (zAI (f:=vBF) (l:=[c,c]) hr (by simp[zBR]) hl (fun x=>zG1 x)) (zAD (ks:=[]) rfl (zAD (ks:=[]) rfl rfl)))))))))
theorem zD1:FO 9 Tryz.f9 [.tmp 6] 100:=mkO Tryz.func9 Tryz.ntmps9 Tryz.results9
theorem vH9(q:QryL)(n:NodeL)(d:DecL)(Bq Bn Bd:Nat)(hi:inB q n Bq Bn)(hr:NodeRg n)(hd:okR d.rat)(hdl:d.rat.num.length+d.rat.den.length<=Bd)(hds:d.sm)(hBd:Bq+Bn+Bd<=1048576):Fn 9 [vBJ q,vA7 n,vA9 d] (.data (.bool true)):=by
 have hwb:=hi.wt;have hBB:=hi.B;have hkn:=hr.kn;obtain⟨b,hb,cf⟩:=uE6 q n zom hi.q.g.1.1 hi.q.r.2.2.2;cases b with
 | true =>
   obtain⟨f1,f2,f3,f4⟩:=hb rfl;by_cases hk:n.kids.length=0
   .have hS:=uD0 (Bd:=Bd) hi zom hr zom
    obtain⟨PP,hPP⟩:∃ PP,Bq+NodeL.tot spF n+Bd=PP:=⟨_,rfl⟩;obtain⟨VV,hVV⟩:∃ VV,NodeL.tot vlF n=VV:=⟨_,rfl⟩;obtain⟨vv,hvv⟩:∃ vv,NodeL.tot uF n=vv:=⟨_,rfl⟩;rw[hPP,hVV,hvv]at hS;have hq:=hS.q;have hv:=hS.hv;have hB:=hS.B;have c2:=vZG q _ _ _ n hS zom;unfold vGK at c2;by_cases h0:(vCF q n).2=0
    .have hA:=hS.acc h0
     rw[rAU h0]at c2;obtain⟨A3,g2,g3⟩:=vRE _ n (rAL _) hA;have kc:=vT4 _ n (rAL _) hA hk;obtain⟨c,hc⟩:∃ c,vDK q n=c:=⟨_,rfl⟩;rw[hc]at A3 g2 g3 c2 kc;dsimp only at c2;have S3:=A3.inS hq hv hB
     have hcl:c.lemmas.length<=250:=by
      have h1:=c.wt_eq;have h2:=zGN c.lemmas;omega
     have ce:=zP2 _ c c (rAL _) S3.sm.1;rw[rB4 rfl]at ce;have S4:=uA7 (d:=d) S3 ⟨hd,zom,zom⟩ hds zom;have t2:=zOG q (vCV d c) _ _ _ hv hq S4.sm.1 S4.z hB zom
     have c4:(vCF q (vCV d c)).2=0->Fn 19 [vBJ q,vA7 (vCV d c)] (.data (.tup [vA7 c,.int .i64 0])):=fun h=>by
      have:=vZC q _ _ _ (vCV d c) S4;unfold vGK at this;rw[rAU h,vRD A3 kc g2 (S4.acc h)]at this;exact this
     generalize vCF q (vCV d c)=R at *
     by_cases hl:0<c.lemmas.length
     .have hM:=uDN A3 kc hl zom
      have cm:=vZC q _ _ _ (vHN c) (hM.inS hq hv hB);unfold vGK at cm;rw[hM.tree,rAU rfl,vXU A3 kc g2 hM]at cm;dsimp only at cm;refine zAL vBC hT zD1 (by simp[vBJ,vA9]) ?_;refine sns ?_;refine zAA zFN rfl ?_;refine sns ?_;refine zAA cf rfl ?_
      refine gon ?_ ?_<;>intro h
      all_goals try (exfalso; omega)
      refine zAA c2 rfl ?_
      refine gon ?_ ?_<;>intro h
      all_goals try (exfalso; omega)
      refine zA5 (j:=c.lemmas.length - 1) rAG zom ?_;refine sns ?_;refine zAA cm (zAD (ks:=[]) rfl (zAD (zBZ (zAD (zAI (f:=vBA) (l:=c.lemmas++[c.lemmas[c.lemmas.length - 1]!]) rfl (by show List.map vBA _++[vBA _]=_; rw[rBE]; rfl) (by show 0+(List.map vBA _).length+1=_; simp) (fun x=>zI8 x)) (zAD (ks:=[]) rfl (zAD (ks:=[]) rfl (zAD (ks:=[]) rfl (zAD (ks:=[]) rfl (zAD (ks:=[]) rfl (zAD (ks:=[]) rfl (zAD (ks:=[]) rfl (zAD (ks:=[]) rfl rfl)))))))))) rfl)) ?_;refine sns ?_;refine zAA ce rfl ?_;refine sns ?_;refine zAA t2 (zAD (ks:=[]) rfl (zAD (zKE rfl rfl) rfl)) ?_
      refine gon ?_ ?_<;>intro h
      .exact rGV
      refine zAA (c4 rAC) (zAD (ks:=[]) rfl (zAD (zKE rfl rfl) rfl)) ?_;refine sns ?_;refine zAA ce rfl ?_;refine sns ?_;exact rGV
     .refine zAL vBC hT zD1 (by simp[vBJ,vA9]) ?_
      refine sns ?_;refine zAA zFN rfl ?_;refine sns ?_;refine zAA cf rfl ?_
      refine gon ?_ ?_<;>intro h
      all_goals try (exfalso; omega)
      refine zAA c2 rfl ?_
      refine gon ?_ ?_<;>intro h
      all_goals try (exfalso; omega)
      refine zAA t2 (zAD (ks:=[]) rfl (zAD (zKE rfl rfl) rfl)) ?_
      refine gon ?_ ?_<;>intro h
      .exact rGV
      refine zAA (c4 rAC) (zAD (ks:=[]) rfl (zAD (zKE rfl rfl) rfl)) ?_;refine sns ?_;refine zAA ce rfl ?_;refine sns ?_;exact rGV
    .rw[rAM h0]at c2
     generalize (vCF q n).2=e at *
     dsimp only at c2;refine zAL vBC hT zD1 (by simp[vBJ,vA9]) ?_;refine sns ?_;refine zAA zFN rfl ?_;refine sns ?_;refine zAA cf rfl ?_
     refine gon ?_ ?_<;>intro h
     all_goals try (exfalso; omega)
     refine zAA c2 rfl ?_
     refine gon ?_ ?_<;>intro h
     all_goals try (exfalso; omega)
     exact rGV
   .refine zAL vBC hT zD1 (by simp[vBJ,vA9]) ?_
    refine sns ?_;refine zAA zFN rfl ?_;refine sns ?_;refine zAA cf rfl ?_
    refine gon ?_ ?_<;>intro h
    all_goals try (exfalso; omega)
    refine zAA zFN rfl ?_;refine sns ?_;exact rGV
 | false =>
   refine zAL vBC hT zD1 (by simp[vBJ,vA9]) ?_;refine sns ?_;refine zAA zFN rfl ?_;refine sns ?_;refine zAA cf rfl ?_;refine sns ?_;refine zAA zFN rfl ?_;refine sns ?_;exact rGV
end Go.PI.Tryz
