/-
  PI: the rules by which a function is carried out: its beginning and end, loops, wraps.
-/
import Derived.Test.YtbelmkceegmdjaaGreatDoorKPB
set_option linter.unusedVariables false
set_option linter.unusedSimpArgs false
set_option linter.unnecessarySimpa false
set_option maxHeartbeats 0
namespace Go.PI
open Go.RowKit
def vYB:Exit->Option Code
 | .ret=>some .ret
 | .exit id=>some (.exit id)
 | _=>none
section
variable {P:Program} {G:Gl} {C:vA8} {X:Env->Prop} {N:Nat}
def vII(P:Program)(G:Gl)(C:vA8)(N:Nat)(c:Code):Prop :=
 ∀ (X:Env->Prop) (_:XOk P G C X) (ro:Option Nat) (n:Nat) (F:Env) (n0:Nat) (_:F.n0=n0) (df:List Deferred) (Q:Exit->St->Prop) (s:St) (a:Act) (w:World) (A:Nat->Prop) (κ:Ka),
   vEP X F G N df s a w A κ->wp P G C (FnH P G) (LeS G,n0) c Q s->c.wpIn (Wd ro) n P (fun e a' w'=>∃ s' A' κ',vEP X F G N df s' a' w' A' κ'/\Q e s') a w
theorem XOk.inM(hC:XOk P G C X)(M:List Nat):XOk P G C (fun E=>X E/\E.M=M) :=
 ⟨fun E F h hg=>⟨hC.anch E F h.1 hg,h.2⟩,hC.call,fun f ds i j b hc hd=>by
   obtain⟨h1,h2⟩:=hC.prod f ds i j b hc hd;refine⟨h1,fun E w A κ h z vs hX H h0 hv=>(h2 E w A κ h z vs hX.1 H h0 hv).mono fun e w' ⟨E',⟨q1,q2,q3⟩,q4⟩=>⟨E',⟨⟨q1,q3.trans hX.2⟩,q2,q3⟩,q4⟩⟩,
  fun l ds i j b hc E w A κ h z vs hX H h0 hv=>by
   obtain⟨f,t,a,c,h1,h2⟩:=hC.yld l ds i j b hc E w A κ h z vs hX.1 H h0 hv
   exact⟨f,t,a,c,h1,fun ro n=>(h2 ro n).mono fun e w' ⟨E',⟨q1,q2,q3⟩,q4⟩=>⟨E',⟨⟨q1,q3.trans hX.2⟩,q2,q3⟩,q4⟩⟩⟩
theorem Run.round(hC:XOk P G C X){F1:Env}{n1:Nat}(hn1:F1.n0=n1){l:Nat}{S Wr:Nat->Prop}{W:World}{fn:FuncId}{T:Array Value}{ps:Array Tmp}{assign body:Code}{D:Nat}{E:Env}{A:Nat->Prop}{κ:Ka}{s:St}{t:Tm}
 (h:Run G X F1 l S Wr W { state:=.ready,pending:=none,fn,tmps:=T,params:=ps,assign,body,defers:=D } E A κ s)
 (hT:T.size=N) (ht:∀ i,i<N->RV F1.w1 F1.A0 F1.κ0 (t i) (T.getD i undef)) (hk0:∀ r x,F1.κ0 r=some x->r<F1.n0)
 (ha:vII P G C N assign) (hb:vII P G C N body) (h1:F1.B<=F1.w1.heap.size) {Q:Exit->St->Prop} {x:List PV} {xs:List (List PV)} {k:Nat} (hx:x.length=ps.size)
 (hw:uHT P G C (LeS G) n1 assign body ps.toList Q t (x::xs) k s)
 {Ay:Nat->Prop} (hy:∀ b,Ay b->b<W.heap.size/\¬ Wr b) {vs:List Value} (hv:RDs W Ay x vs) :
 vF2 P l vs.toArray W fun e W'=>∃ S' Wr',e=.returned (.bool (decide (k≠0)))/\(∃ ex E' A' κ' s',Run G X F1 l S' Wr' W' { state:=if k=0 then .done else .ready,pending:=vYB ex,fn,tmps:=T,params:=ps,assign,body,defers:=D } E' A' κ' s' /\
  (k=0->(vYB ex).isSome=true/\Q ex { s' with t:=t })/\(∀ k',k=k'+1->ex=.normal/\uHT P G C (LeS G) n1 assign body ps.toList Q t xs k' s'))/\Below 0 W W' /\
  (∀ b,b<W.heap.size->¬ Wr b->W'.heap[b]?=W.heap[b]?)/\(∀ b,Wr' b->Wr b\/W.heap.size<=b)/\∀ b,S' b->S b\/Ay b\/W.heap.size<=b:=by
 obtain⟨fK,fZ,fkw,fB,fA0,fw1,fκ0,fM0,fn0,fgh⟩:=uBW h.re;obtain⟨E',hX',hre',hM',H'⟩:=h.enter hC hy h1;obtain⟨gK,gZ,gkw,gB,gA0,gw1,gκ0,gM0,gn0,ggh⟩:=uBW hre';have hvl:vs.length=ps.size:=by rw[<- hv.1]; exact hx
 refine⟨fn,_,assign,body,run_yield h.rc (by simpa using hvl),fun ro n=>roundIn_of_wpIn trivial ?_⟩
 have hmono:∀ {d u},RV F1.w1 F1.A0 F1.κ0 d u->RV W (fun b=>A b\/Ay b) κ d u:=fun hr=>hr.mono (fun b hb=>rAW (h.hr.a0 b (fA0 ▸ hb))) (fun b o hb=>by
  have:=h.hr.acell b o (fA0 ▸ hb); rw[fw1]at this; exact this) (fun r y hr=>by
  rw[<- hr,<- fκ0]; exact h.hr.k0 r (by rw[fn0]; exact hk0 r y hr))
 have hset:=vN7 (w:=W) (A:=fun b=>A b\/Ay b) (κ:=κ) ps.toList x vs t T ⟨hv.1,fun i d hd=>.data _ _ ((hv.2 i d hd).mono (fun b hb=>rA0 hb) (fun _ _ _=>rfl))⟩ hT (fun i hi=>hmono (ht i hi)) (by simpa using hx)
 have hfold:(ps.zip vs.toArray).foldl (fun tmps (t,a)=>tmps.setIfInBounds t a) T=(ps.toList.zip vs).foldl (fun tmps (t,a)=>tmps.setIfInBounds t a) T:=by
  rw[<- rFP,Array.toList_zip]
 rw[hfold]
 have hR:vEP (fun E=>X E/\E.M=F1.M0) (F1.round l S Wr W A Ay) G N [] { s with t:=vFQ t ps.toList x } { tmps:=(ps.toList.zip vs).foldl (fun tmps (t,a)=>tmps.setIfInBounds t a) T,defers:=[] } W (fun b=>A b\/Ay b) κ :=
  ⟨E',⟨hX',hM'⟩,hre',H',h.fresh,by rw[gn0]; exact h.n0,hset.2,hset.1,[],by rw[hM',gM0]; rfl,rfl⟩
 refine wpIn_mono (ha _ (hC.inM F1.M0) (some l) n (F1.round l S Wr W A Ay) n1 hn1 [] _ _ _ _ _ _ hR hw) fun e a1 w1 ⟨s1,A1,κ1,⟨E1,⟨hX1,hM1⟩,hre1,hR1⟩,hq⟩=>?_
 cases e<;>try exact hq.elim
 obtain⟨iK,iZ,ikw,iB,iA0,iw1,iκ0,iM0,in0,igh⟩:=uBW hre1
 have hl1:w1.heap[l]?=some (.loop { state:=.ready,pending:=none,fn,tmps:=T,params:=ps,assign,body,defers:=D }):=by
  have:=(hR1.hr.kp.kk l (by rw[iK]; exact rA0 (rA0 rfl))).2.1;rw[this,ikw]; exact h.rc
 have hZ1:E1.Z l:=by rw[iZ]; exact rA0 (rA0 rfl)
 have hT1:=hR1.hr.turn (.loop { state:=.busy,pending:=none,fn,tmps:=T,params:=ps,assign,body,defers:=D }) hl1 (by rw[iB]; exact h.lp.1) hZ1;refine⟨_,run_beginRound hl1 rfl,?_⟩
 have hcell1:∀ b o,A1 b->(w1.putObj l (.loop { state:=.busy,pending:=none,fn,tmps:=T,params:=ps,assign,body,defers:=D })).cell? ⟨b,o,none⟩=w1.cell? ⟨b,o,none⟩:=fun b o hA =>
  cell?_of_heap (World.putObj_heap_other (r:=l) (k:=b) (fun e=>by subst e; exact(hR1.hr.kp.zk _ hZ1).2.1 hA)) o
 have hRb:vEP (fun E=>X E/\E.M=F1.M0) { F1.round l S Wr W A Ay with kw:=w1.putObj l (.loop { state:=.busy,pending:=none,fn,tmps:=T,params:=ps,assign,body,defers:=D }) } G N [] s1 a1
  (w1.putObj l (.loop { state:=.busy,pending:=none,fn,tmps:=T,params:=ps,assign,body,defers:=D })) A1 κ1 :=
  ⟨{ E1 with kw:=w1.putObj l (.loop { state:=.busy,pending:=none,fn,tmps:=T,params:=ps,assign,body,defers:=D }) },⟨hC.anch E1 { E1 with kw:=w1.putObj l (.loop { state:=.busy,pending:=none,fn,tmps:=T,params:=ps,assign,body,defers:=D }) } hX1 rfl,hM1⟩,by
    rw[<- hre1]; rfl,hT1,hR1.fresh,hR1.n0,fun i hi=>(hR1.tm i hi).mono (fun _ h=>h) hcell1 (fun _ _ h=>h),hR1.size,hR1.df⟩
 have hb1:Below 0 W (w1.putObj l (.loop { state:=.busy,pending:=none,fn,tmps:=T,params:=ps,assign,body,defers:=D })):=by
  have:=hR1.hr.kp.kb; rw[ikw]at this;exact Below.trans this ⟨rfl,rfl,rfl,zsm,fun k hk=>by omega⟩
 have hkw1:∀ b,(F1.round l S Wr W A Ay).K b->b≠l->(w1.putObj l (.loop { state:=.busy,pending:=none,fn,tmps:=T,params:=ps,assign,body,defers:=D })).heap[b]?=W.heap[b]?:=fun b hb hne=>by
  have:=(hR1.hr.kp.kk b (by rw[iK]; exact hb)).2.1;rw[World.putObj_heap_other hne,this,ikw]; rfl
 refine wpIn_mono (hb _ (hC.inM F1.M0) (some l) n { F1.round l S Wr W A Ay with kw:=_ } n1 hn1 [] _ _ _ _ _ _ hRb hq) fun e a2 w2 ⟨s2,A2,κ2,⟨E2,⟨hX2,hM2⟩,hre2,hR2⟩,hq2⟩=>?_
 obtain⟨jK,jZ,jkw,jB,jA0,jw1,jκ0,jM0,jn0,jgh⟩:=uBW hre2
 have hl2:w2.heap[l]?=some (.loop { state:=.busy,pending:=none,fn,tmps:=T,params:=ps,assign,body,defers:=D }):=by
  have:=(hR2.hr.kp.kk l (by rw[jK]; exact rA0 (rA0 rfl))).2.1;rw[this,jkw]; exact World.putObj_heap_same (rA6.1 hl1).1
 have hn2:F1.n0<=s2.nx:=by have:=hR2.n0; rw[jn0]at this; exact this
 cases k with
 | zero =>
   cases e with
   | ret =>
     obtain⟨S',Wr',E'',q1,q2,q3,q4,q5⟩:=h.leave hC hy h1 (r':={ state:=.done,pending:=some .ret,fn,tmps:=T,params:=ps,assign,body,defers:=D }) hX2 hre2 hM2 hR2.hr hR2.fresh hn2 hb1 hkw1 hl2;exact⟨_,_,run_endRound (some .ret) hl2,S',Wr',rfl,⟨.ret,E'',A2,κ2,s2,q1,fun _=>⟨rfl,hq2⟩,fun k' e=>by omega⟩,q2,q3,q4,q5⟩
   | exit id =>
     obtain⟨S',Wr',E'',q1,q2,q3,q4,q5⟩:=h.leave hC hy h1 (r':={ state:=.done,pending:=some (.exit id),fn,tmps:=T,params:=ps,assign,body,defers:=D }) hX2 hre2 hM2 hR2.hr hR2.fresh hn2 hb1 hkw1 hl2;exact⟨_,_,run_endRound (some (.exit id)) hl2,S',Wr',rfl,⟨.exit id,E'',A2,κ2,s2,q1,fun _=>⟨rfl,hq2⟩,fun k' e=>by omega⟩,q2,q3,q4,q5⟩
   | _=>exact hq2.elim
 | succ k =>
   cases e with
   | normal =>
     obtain⟨s3,hle,hq3⟩:=hq2;obtain⟨A3,κ3,hR3⟩:=hle E2 N [] a2 w2 A2 κ2 (jn0.trans hn1) hR2;have hn3:F1.n0<=s3.nx:=by have:=hR3.n0; rw[jn0]at this; exact this
     obtain⟨S',Wr',E'',q1,q2,q3,q4,q5⟩:=h.leave hC hy h1 (r':={ state:=.ready,pending:=none,fn,tmps:=T,params:=ps,assign,body,defers:=D }) hX2 hre2 hM2 hR3.hr hR3.fresh hn3 hb1 hkw1 hl2;exact⟨_,_,run_endRound none hl2,S',Wr',zsm,⟨.normal,E'',A3,κ3,s3,q1,fun e=>by omega,fun k' e=>⟨rfl,by rw[<- Nat.succ.inj e]; exact hq3⟩⟩,q2,q3,q4,q5⟩
   | _=>exact hq2.elim
theorem HR.mark{E:Env}{w:World}{A:Nat->Prop}{κ:Ka}{h:Hp}{z:Fz}(H:HR E G w A κ h z){D:Nat}(hD:w.heap[D]?=some (.deferred (some [])))(d1:E.B<=D)(d2:¬ E.S D)(d3:¬ A D)(d4:D∉E.M)(d5:¬ E.K D):HR { E with M:=D::E.M } G w A κ h z :=
 ⟨H.bel,H.hB,H.alt,H.a0,H.a1,H.acell,H.k0,H.glob,H.klt,⟨H.kp.base,H.kp.keep,H.kp.wr,H.kp.own,fun D' hD'=>by
   rcases rBA.1 hD' with e | e
   .subst e; exact⟨d1,⟨d2,d3⟩,hD⟩
   .exact H.kp.mks D' e,rEE.2 ⟨d4,H.kp.nd⟩,H.kp.kb,H.kp.kk,H.kp.zk,fun D' hD'=>by
   rcases rBA.1 hD' with e | e
   .subst e; exact rA0 d5
   .exact H.kp.mk0 D' e,H.kp.gk⟩,H.blk,H.excl⟩
def Env.range(E:Env)(W1:World)(A1:Nat->Prop)(nx:Nat)(κ:Ka)(D:Nat):Env:={ E with w1:=W1,A0:=A1,n0:=nx,κ0:=κ,M0:=D::E.M }
theorem Run.done(hC:XOk P G C X){E F:Env}{df:List Deferred}{s:St}{a:Act}{w:World}{A:Nat->Prop}{κ:Ka}(hF:E.re F=E)(hR:Rel E G N df s a w A κ){A1:Nat->Prop}{z1:Fz}{W1:World}(H1:HR E G w A1 κ s.h z1)(hAA:∀ b,A b->A1 b)
 (hW1:Below w.heap.size w W1) {S Wr:Nat->Prop} {W:World} {r:Loop} {E':Env} {A':Nat->Prop} {κ':Ka} {s':St}
 (h:Run G X (E.range W1 A1 s.nx κ w.heap.size) (w.heap.size+1) S Wr W r E' A' κ' s') (o:Obj) :
 vEP X F G N df { s' with t:=s.t } { a with defers:=mkD w.heap.size::a.defers } (W.putObj (w.heap.size+1) o) A' κ':=by
 obtain⟨fK,fZ,fkw,fB,fA0,fw1,fκ0,fM0,fn0,fgh⟩:=uBW hF;obtain⟨gK,gZ,gkw,gB,gA0,gw1,gκ0,gM0,gn0,ggh⟩:=uBW h.re;have HL:=h.hr.putL o h.rc (by rw[gB]; exact h.lp.1) h.lp.2.1 h.lp.2.2.1 (by rw[gK]; exact h.lK);have hA:∀ b,A1 b->A' b:=fun b hb=>h.hr.a0 b (by rw[gA0]; exact hb)
 have hcell:∀ b o',A1 b->(W.putObj (w.heap.size+1) o).cell? ⟨b,o',none⟩=w.cell? ⟨b,o',none⟩:=fun b o' hb=>by
  have:=HL.acell b o' (by rw[gA0]; exact hb);rw[this,gw1]; exact cell?_of_heap (hW1.block b (H1.alt b hb)) o'
 have hκ:∀ r,r<s.nx->κ' r=κ r:=fun r hr=>by
  have:=h.hr.k0 r (by rw[gn0]; exact hr);rw[gκ0]at this; exact this
 have hn:=hR.n0
 have HA:=HL.anchor F (fun b hb=>hA b (hAA b (hR.hr.a0 b (fA0 ▸ hb)))) (fun b hb=>by
  rcases HL.a1 b hb with q | q
  .rw[gA0]at q
   rcases H1.a1 b q with q | q
   .exact rAW (fA0 ▸ q)
   .exact rA0 (by rw[gB]; exact q)
  .exact rA0 q) (fun b o' hb=>by
  rw[hcell b o' (hAA b (hR.hr.a0 b (fA0 ▸ hb))),<- fw1]; exact hR.hr.acell b o' (fA0 ▸ hb)) (fun r hr=>by
  rw[hκ r (by rw[<- fn0]at hr; omega),<- fκ0]; exact hR.hr.k0 r (by rw[fn0]; exact hr)) (fun hg=>by
  have:=(hR.hr.kp.gk (by rw[ggh]at hg; exact hg)).1
  rw[fn0]at this; exact this) (by rw[gB]; exact fB.symm) (by have:=HL.kp.kb; rw[gkw]at this; rw[<- fkw]; exact this) (fun b hb=>by
  have q:=HL.kp.kk b (by rw[gK]; show E.K b; rw[fK]; exact hb)
  rw[gkw]at q; rw[<- fkw]; exact q) (fun b hb=>by
  have q:=HL.kp.zk b (by rw[gZ]; show E.Z b; rw[fZ]; exact hb)
  rw[gK]at q; rw[<- fK]; exact q) (fun D hD=>by
  rw[h.m]at hD;rcases rBA.1 hD with e | e
  .subst e; right; intro hK; rw[<- fK]at hK
   exact rDN _ (hR.hr.kp.kk _ hK).1
  .rw[<- fM0,<- fK]; exact hR.hr.kp.mk0 D e) (fun r b m sz cap hb hk hc hz=>by
  have:=(HL.kp.own r b m sz cap hb hk hc hz).2
  rw[gK]at this; rw[<- fK]; exact this) (by rw[ggh]; exact fgh.symm)
 refine⟨_,hC.anch E' F h.x (by rw[ggh]; exact fgh.symm),rfl,HA,h.fresh,?_,fun i hi=>?_,hR.size,?_⟩
 .show F.n0<=_
  have:=h.n0;have e:(E.range W1 A1 s.nx κ w.heap.size).n0=s.nx:=rfl;rw[e]at this;show F.n0<=s'.nx
  omega
 .exact(hR.tm i hi).mono (fun b hb=>hA b (hAA b hb)) (fun b o' hb=>hcell b o' (hAA b hb)) (fun r x hr=>by
   have hlt:r<s.nx:=rD3 fun q=>by rw[(hR.fresh r q).2.2]at hr; cases hr
   rw[hκ r hlt]; exact hr)
 .obtain⟨Ms,q1,q2⟩:=hR.df
  exact⟨w.heap.size::Ms,by show E'.M=_++F.M0; rw[h.m,<- fM0]; show w.heap.size::E.M=_; rw[q1]; rfl,by show _::a.defers=_; rw[q2]; rfl⟩
theorem vL7(hC:XOk P G C X)(hmk:∀ E M,X E->X { E with M:=M }){n:Nat}{F:Env}{n0:Nat}(hn:F.n0=n0){df:List Deferred}{g:Operand}{ps:Array Tmp}{assign body:Code}(hg:vB5 N g=true)
 (ha:vII P G C N assign) (hb:vII P G C N body) (Q:Exit->St->Prop) (s1:St) (a:Act) (w:World) (A:Nat->Prop) (κ:Ka)
 (hR1:vEP X F G N df s1 a w A κ) (h:wp P G C (FnH P G) (LeS G,n0) (.rangeFunc g ps assign body) Q s1) :
 (Code.rangeFunc g ps assign body).wpIn (Wd none) n P (fun e a' w'=>∃ s' A' κ',vEP X F G N df s' a' w' A' κ'/\Q e s') a w:=by
 unfold wp at h;obtain⟨s,hle,h⟩:=h
 obtain⟨A,κ,hR⟩:∃ A' κ',vEP X F G N df s a w A' κ':=by
  obtain⟨E,hX,hF,hR⟩:=hR1;obtain⟨A',κ',hR'⟩:=hle E N df a w A κ ((zMP hF).trans hn) hR;exact⟨A',κ',E,hX,hF,hR'⟩
 clear hR1 hle
 split at h
 case h_2=>exact h.elim
 rename_i f captured hev
 obtain⟨m,ds,ks,xs,k,hfr,hCf,hlen,hrest⟩:=h;obtain⟨E,hX,hF,hR⟩:=hR;have hgv:RV w A κ (.func (.func f) [] captured) (a.eval g):=hev ▸ zIL hR.hr hR.tm hg;obtain⟨fs,cs,hρ,hl1,hl2,_,hf2⟩:=hgv.func_inv;have e1:fs=#[]:=rDM (by simpa using hl1);subst e1;have hRD:=zM5 hR.hr hfr (zCI hl2 hf2);have hHf:=hR.hr.freeze (zBY hfr);obtain⟨hcal,hseq⟩:=hC.call f ds (.seq xs) rfl hCf;refine wpIn_rangeFunc fun fn _=>?_
 obtain⟨rec,hrec⟩:∃ rec:LoopState->Option Code->Loop,rec=fun st pe=>{ state:=st,pending:=pe,fn,tmps:=a.tmps,params:=ps,assign,body,defers:=w.heap.size }:=⟨_,rfl⟩
 obtain⟨W1,hW1⟩:∃ W1,(w.alloc (.deferred (some []))).alloc (.loop (rec .ready none))=W1:=⟨_,rfl⟩
 have hL1:W1.heap[w.heap.size+1]?=some (.loop (rec .ready none)):=by
  rw[<- hW1]; have:=World.alloc_heap_new (w.alloc (.deferred (some []))) (.loop (rec .ready none)); rwa [World.size_alloc]at this
 have hD1:W1.heap[w.heap.size]?=some (.deferred (some [])):=by
  rw[<- hW1]; exact(Below.heap_alloc _ _ _ zsm).trans (World.alloc_heap_new w _)
 have hbel:Below w.heap.size w W1:=by rw[<- hW1]; exact((Below.refl _ w).alloc (rAR _) _).alloc zsm _
 have hsz:W1.heap.size=w.heap.size+2:=by rw[<- hW1]; simp
 refine⟨w.heap.size+1,[{ target:=.collected w.heap.size,args:=#[] }],W1,{ target:=.fn (.func f) cs,args:=#[.func (.yield (w.heap.size+1)) #[] #[]] },W1,f,
  #[.func (.yield (w.heap.size+1)) #[] #[]]++cs,W1,?_,?_,fun _ _=>trivial,?_,fun hh=>(by cases hh),?_⟩
 .rw[<- hW1,hrec]; exact run_enterLoop_outer _ _ _ _ _
 .simp only[resolve,hρ]
  simp[go_sem]
 .unfold callable at hcal
  cases hfn:P.funcs[f]? with
  | none=>simp[hfn]at hcal
  | some fn' =>
    simp only[hfn,rAO,rEH,ne_eq]at hcal;obtain⟨c,hc⟩:=rBZ.1 hcal.1;simp[invoke,callFunc,hfn,hcal.2,hc]
 have hCov:Cov (fun b=>b<w.heap.size) E (fun b=>A b\/vBQ κ ks b) κ s.h :=
  ⟨fun b hb=>rA4 hb hHf.hB,hHf.alt,fun b hb=>(hHf.kp.keep b hb).1,fun D hD=>(rA6.1 (hHf.kp.mks D hD).2.2).1,fun b hb=>(hHf.kp.kk b hb).1,fun r b m sz cap hr hk hc=>(hHf.klt r m sz cap hk).resolve_left hc⟩
 have H1:=hHf.same (w':=W1) hCov (hbel.mono (rA7 _)) (fun b hb=>hbel.block b hb);have hDM:w.heap.size∉E.M:=fun hD=>rDN _ (hCov.m _ hD)
 have H2:=H1.mark hD1 hHf.hB (fun hS=>rDN _ (hCov.s _ hS)) (fun hA=>rDN _ (hCov.a _ hA)) hDM (fun hK=>rDN _ (hCov.k _ hK));obtain⟨A1,hA1⟩:∃ A1:Nat->Prop,(fun b=>A b\/vBQ κ ks b)=A1:=⟨_,rfl⟩;rw[hA1]at hRD hHf H1 H2 hCov;have H3:=H2.anchor (E.range W1 A1 s.nx κ w.heap.size) (fun b hb=>hb) (fun b hb=>rAW hb) (fun b o _=>rfl) (fun r _=>rfl) (fun hg=>rA4 (hR.hr.kp.gk hg).1 hR.n0) rfl H2.kp.kb H2.kp.kk H2.kp.zk (fun D hD=>rAW hD) (fun r b m sz cap hb hk hc hz=>(H2.kp.own r b m sz cap hb hk hc hz).2) rfl
 have hfresh:vDA s.nx κ s.h (vCG s.z ks):=fun r hr=>by
  refine⟨(hR.fresh r hr).1,?_,(hR.fresh r hr).2.2⟩;simp only[vCG,rD1];refine⟨?_,(hR.fresh r hr).2.1⟩;simp only[rEU,rB5];intro hm;obtain⟨b,hb⟩:=zBY hfr r hm;rw[(hR.fresh r hr).1]at hb; cases hb
 have lt1:∀ b,b<w.heap.size->b<W1.heap.size:=fun b hb=>by omega
 have run0:Run G X (E.range W1 A1 s.nx κ w.heap.size) (w.heap.size+1) (fun b=>b<W1.heap.size) (fun b=>b<W1.heap.size/\¬ A1 b) W1 (rec .ready none) (({ E with M:=w.heap.size::E.M }:Env).re (E.range W1 A1 s.nx κ w.heap.size)) A1 κ { s with z:=vCG s.z ks } :=
  ⟨fun b hb=>hb,fun b hb=>hb.1,fun b hb=>hb,hC.anch _ _ (hmk E _ hX) rfl,rfl,rfl,H3,hfresh,rAR _,
    ⟨fun b hb=>lt1 b (hCov.base b hb),fun b hb=>lt1 b (hCov.a b hb),fun b hb=>lt1 b (hCov.s b hb),fun D hD=>by
      rcases rBA.1 hD with e | e
      .subst e; omega
      .exact lt1 D (hCov.m D e),fun b hb=>lt1 b (hCov.k b hb),fun r b m sz cap hr hk hc=>lt1 m (hCov.o r b m sz cap hr hk hc)⟩,
    fun b hb hA=>⟨hb,hA⟩,⟨by have:=hHf.hB; show E.B<=_; omega,fun hS=>by have:=hCov.s _ hS; omega,fun hA=>by have:=hCov.a _ hA; omega,zom⟩,fun hK=>by have:=hCov.k _ hK; omega,hL1⟩
 have htm:∀ i,i<N->RV (E.range W1 A1 s.nx κ w.heap.size).w1 (E.range W1 A1 s.nx κ w.heap.size).A0 (E.range W1 A1 s.nx κ w.heap.size).κ0 (s.t i) (a.tmps.getD i undef):=fun i hi =>
  (hR.tm i hi).mono (fun b hb=>hA1 ▸ rAW hb) (fun b o hb=>cell?_of_heap (hbel.block b (hR.hr.alt b hb)) o) (fun _ _ h=>h)
 have hk0:∀ r x,(E.range W1 A1 s.nx κ w.heap.size).κ0 r=some x->r<(E.range W1 A1 s.nx κ w.heap.size).n0:=fun r x hr=>rD3 fun q=>by
  have:κ r=none:=(hR.fresh r q).2.2;have hr':κ r=some x:=hr;rw[this]at hr'; cases hr'
 have hB1:(E.range W1 A1 s.nx κ w.heap.size).B<=(E.range W1 A1 s.nx κ w.heap.size).w1.heap.size:=rBU hHf.hB hbel.size
 let Y : Cons P xs k :=
  {
   l:=w.heap.size+1
   J := fun i S Wr W=>(i<=k/\∃ E' A' κ' s',Run G X (E.range W1 A1 s.nx κ w.heap.size) (w.heap.size+1) S Wr W (rec .ready none) E' A' κ' s'/\uHT P G C (LeS G) s.nx assign body ps.toList Q s.t (xs.drop i) (k - i) s') \/
     (i=k+1/\∃ ex c E' A' κ' s',vYB ex=some c/\Run G X (E.range W1 A1 s.nx κ w.heap.size) (w.heap.size+1) S Wr W (rec .done (some c)) E' A' κ' s'/\Q ex { s' with t:=s.t })
   lt:=by
    rintro i S Wr W (⟨_,E',A',κ',s',q,_⟩ | ⟨_,ex,c,E',A',κ',s',_,q,_⟩)
    .exact⟨q.lt,q.wrS⟩
    .exact⟨q.lt,q.wrS⟩
   stable:=by
    rintro i S Wr W W' (⟨hi,E',A',κ',s',q,q2⟩ | ⟨hi,ex,c,E',A',κ',s',q1,q,q2⟩) hb hS
    .exact rAW ⟨hi,E',A',κ',s',q.stable hb hS,q2⟩
    .exact rA0 ⟨hi,ex,c,E',A',κ',s',q1,q.stable hb hS,q2⟩
   yield:=by
    rintro i S Wr W Ay x vs hJ hx hi hv hy
    rcases hJ with⟨_,E',A',κ',s',q,q2⟩ | ⟨hi',_⟩
    .have hdrop:xs.drop i=x::xs.drop (i+1):=by
      obtain⟨hlt,hxe⟩:=rAP.1 hx;rw[rBT hlt,hxe]
     rw[hdrop]at q2;rw[hrec]at q;obtain⟨f',t',as',b',h1,h2⟩:=q.round hC rfl hR.size htm hk0 ha hb hB1 (hlen x (rAS hx)) q2 hy hv;refine⟨f',t',as',b',h1,fun ro n=>(h2 ro n).mono fun e W' ⟨S',Wr',p1,⟨ex,E'',A'',κ'',s'',p2,p3,p4⟩,p5,p6,p7,p8⟩=>⟨S',Wr',?_,?_,p5,p6,p7,p8⟩⟩
     .rw[p1]
      congr 2
      by_cases hik:i=k
      .simp[hik]
      .have:k - i≠0:=by omega
       simp[hik,this]
     .by_cases hik:i=k
      .have e0:k - i=0:=by omega
       obtain⟨p9,p10⟩:=p3 e0;obtain⟨c,hc⟩:=rBZ.1 p9;rw[rAU e0,hc]at p2;exact rA0 ⟨zom,ex,c,E'',A'',κ'',s'',hc,by rw[hrec]; exact p2,p10⟩
      .have e0:k - i≠0:=by omega
       obtain⟨p9,p10⟩:=p4 (k - (i+1)) zom;subst p9;rw[rAM e0]at p2;exact rAW ⟨zom,E'',A'',κ'',s'',by rw[hrec]; exact p2,p10⟩
    .omega }
 have hA1W:∀ b,A1 b->b<W1.heap.size/\¬ (b<W1.heap.size/\¬ A1 b):=fun b hb=>⟨lt1 b (hCov.a b hb),fun q=>q.2 hb⟩
 have hcall:=hseq k Y W1 A1 _ _ cs.toList hA1W H1.gok ⟨hRD.1,fun i d hd=>(hRD.2 i d hd).mono (fun _ h=>h) (fun b o hb=>cell?_of_heap (hbel.block b (hCov.a b hb)) o)⟩
  (rAW ⟨rA7 _,_,_,_,_,run0,hrest⟩)
 rw[Array.toArray_toList]at hcall;refine callsIn_wd.2 (hcall.mono fun e w' ⟨v,S',Wr',he,hJ⟩=>?_);subst he;rcases hJ with⟨hi,E',A',κ',s',q,q2⟩ | ⟨hi,ex,c,E',A',κ',s',q1,q,q2⟩
 .have hi':min xs.length (k+1)=xs.length:=by omega
  rw[hi',rDU (rAR _)]at q2;refine⟨none,_,run_endLoop q.rc (by rw[hrec]; simp) |>.trans (by rw[hrec]),?_⟩;exact⟨_,_,_,q.done hC hF hR hHf (fun b hb=>hA1 ▸ rAW hb) hbel _,q2⟩
 .refine⟨some c,_,run_endLoop q.rc (by rw[hrec]; simp) |>.trans (by rw[hrec]),?_⟩
  have hfin:=q.done hC hF hR hHf (fun b hb=>hA1 ▸ rAW hb) hbel (.loop { rec .done (some c) with state:=.exhausted });cases ex with
  | ret=>cases q1; exact wpIn_ret ⟨_,_,_,by rw[hrec]at hfin; exact hfin,q2⟩
  | exit id=>cases q1; exact wpIn_exit ⟨_,_,_,by rw[hrec]at hfin; exact hfin,q2⟩
  | _=>cases q1
end
open Go.RowKit
section
variable {P:Program} {G:Gl} {N:Nat}
theorem zBG{b:Frame}{a:Act}{k:List Item}{cs:List Frame}{w:World}{c:Code}:step P (lone (b.atR a (.code (.scope c)::k)) cs w)=.next (lone (b.atR a (.code c::.inScope c::k)) cs w) :=
 step_lone_go (by simp[stepG,stepG.exec,Frame.atR])
theorem zF1{b:Frame}{a:Act}{k:List Item}{cs:List Frame}{w:World}{c:Code}:step P (lone (b.atR a (.inScope c::k)) cs w)=.next (lone (b.atR a k) cs w) :=
 step_lone_go (by simp[stepG,stepG.exec,Frame.atR])
def uJL(Q:Exit->Act->World->Prop):Exit->Act->World->Prop
 | .goto _,_,_=>False
 | e,a,w=>Q e a w
theorem vLK{F:Fence}{n:Nat}{Q:Exit->Act->World->Prop}{a:Act}{w:World}{c:Code}(h:c.wpIn F n P (uJL Q) a w):(Code.scope c).wpIn F n P Q a w:=by
 intro b k cs hro hb hr;have h0:(lone (b.atR a (.code (.scope c)::k)) cs w).fenced P F:=fenced_calm hb hr rfl;obtain⟨e,a₁,w₁,hq,harr⟩:=h b (.inScope c::k) cs hro hb hr;cases e with
 | normal=>exact⟨.normal,a₁,w₁,hq,.head h0 zBG (StepsIn.trans harr (.one (fenced_calm hb hr rfl) zF1))⟩
 | exit id' =>
   have hx:exitTo id' (.inScope c::k)=exitTo id' k:=by simp[exitTo]
   exact⟨.exit id',a₁,w₁,hq,fun k' hk=>.head h0 zBG (harr.1 k' (by rw[hx]; exact hk)),
    fun hr' hk=>let ⟨k₁,h1,h2⟩:=harr.2 hr' (by rw[hx]; exact hk); ⟨k₁,h1,.head h0 zBG h2⟩⟩
 | goto l=>exact hq.elim
 | ret=>exact⟨_,a₁,w₁,hq,.of_steps (.one h0 zBG) harr⟩
 | panic ch=>exact⟨_,a₁,w₁,hq,.of_steps (.one h0 zBG) harr⟩
 | outgrown=>exact⟨_,a₁,w₁,hq,.of_steps (.one h0 zBG) harr⟩
theorem zDC{C:vA8}(hm:P.follows .mixedOrders=true):∀ (c:Code) (X:Env->Prop) (_:XOk P G C X) (ro:Option Nat) (n:Nat) (F:Env) (n0:Nat) (_:F.n0=n0) (df:List Deferred) (_:noR c=true\/(ro=none/\∀ E M,X E->X { E with M:=M }))
 (Q:Exit->St->Prop) (s:St) (a:Act) (w:World) (A:Nat->Prop) (κ:Ka),vBU N c=true->vEP X F G N df s a w A κ->wp P G C (FnH P G) (LeS G,n0) c Q s ->
 c.wpIn (Wd ro) n P (fun e a' w'=>∃ s' A' κ',vEP X F G N df s' a' w' A' κ'/\Q e s') a w
 | .skip,_,_,_,_,_,_,_,_,_,Q,s,a,w,A,κ,_,hR,h=>wpIn_skip ⟨s,A,κ,hR,h⟩
 | .label _,_,_,_,_,_,_,_,_,_,Q,s,a,w,A,κ,_,hR,h=>wpIn_label ⟨s,A,κ,hR,h⟩
 | .exit id,_,_,_,_,_,_,_,_,_,Q,s,a,w,A,κ,_,hR,h=>wpIn_exit ⟨s,A,κ,hR,h⟩
 | .ret,_,_,_,_,_,_,_,_,_,Q,s,a,w,A,κ,_,hR,h=>wpIn_ret ⟨s,A,κ,hR,h⟩
 | .seq x y,X,hC,ro,n,F,n0,hn,df,hmk,Q,s,a,w,A,κ,hf,hR,h=>by
   simp only[vBU,rAO]at hf;simp only[noR,rAO]at hmk;refine wpIn_seq (wpIn_mono (zDC hm x X hC ro n F n0 hn df (hmk.imp_left (·.1)) _ s a w A κ hf.1 hR h) fun e a' w' ⟨s',A',κ',hR',hq⟩=>?_);cases e with
   | normal =>
     unfold vDO at hq;obtain⟨s0,hle,hq⟩:=hq;obtain⟨E,hX,hF,hR'⟩:=hR';obtain⟨A0,κ0,hR0⟩:=hle E N df a' w' A' κ' ((zMP hF).trans hn) hR';exact zDC hm y X hC ro n F n0 hn df (hmk.imp_left (·.2)) Q s0 a' w' A0 κ0 hf.2 ⟨E,hX,hF,hR0⟩ hq
   | _=>unfold vDO at hq; exact⟨s',A',κ',hR',hq⟩
 | .cond c x y,X,hC,ro,n,F,n0,hn,df,hmk,Q,s,a,w,A,κ,hf,hR,h=>by
   simp only[vBU,rAO]at hf;simp only[noR,rAO]at hmk;unfold wp at h
   split at h
   .rename_i b hb
    have hc:RV w A κ (ev G s.t c) (a.eval c):=by obtain⟨E,hX,hF,hR⟩:=hR; exact zIL hR.hr hR.tm hf.1
    rw[hb]at hc;exact wpIn_cond_split hc.bool_inv (fun e=>zDC hm x X hC ro n F n0 hn df (hmk.imp_left (·.1)) Q s a w A κ hf.2.1 hR (h.1 e)) (fun e=>zDC hm y X hC ro n F n0 hn df (hmk.imp_left (·.2)) Q s a w A κ hf.2.2 hR (h.2 e))
   .rename_i hb
    have hc:RV w A κ (ev G s.t c) (a.eval c):=by obtain⟨E,hX,hF,hR⟩:=hR; exact zIL hR.hr hR.tm hf.1
    rw[hb]at hc;obtain⟨b,hc⟩:=hc.anyb_inv;exact wpIn_cond_split hc (fun _=>zDC hm x X hC ro n F n0 hn df (hmk.imp_left (·.1)) Q s a w A κ hf.2.1 hR h.1) (fun _=>zDC hm y X hC ro n F n0 hn df (hmk.imp_left (·.2)) Q s a w A κ hf.2.2 hR h.2)
   .exact h.elim
 | .block id c,X,hC,ro,n,F,n0,hn,df,hmk,Q,s,a,w,A,κ,hf,hR,h=>by
   refine wpIn_block (wpIn_mono (zDC hm c X hC ro n F n0 hn df hmk _ s a w A κ hf hR h) fun e a' w' ⟨s',A',κ',hR',hq⟩=>?_);cases e with
   | exit id' =>
     simp only[Exit.inBlock,vDH]at hq ⊢
     split
     .rename_i e; rw[rAU e]at hq; exact⟨s',A',κ',hR',hq⟩
     .rename_i e; rw[rAM e]at hq; exact⟨s',A',κ',hR',hq⟩
   | _=>exact⟨s',A',κ',hR',hq⟩
 | .loop c,X,hC,ro,n,F,n0,hn,df,hmk,Q,s,a,w,A,κ,hf,hR,h=>by
   unfold wp at h;obtain⟨s0,h0,m,h⟩:=h
   obtain⟨A0,κ0,hR0⟩:∃ A' κ',vEP X F G N df s0 a w A' κ':=by
    obtain⟨E,hX,hF,hR⟩:=hR;obtain⟨A',κ',hR'⟩:=h0 E N df a w A κ ((zMP hF).trans hn) hR;exact⟨A',κ',E,hX,hF,hR'⟩
   have key:∀ m s a w A κ,vEP X F G N df s a w A κ->Nat.rec (motive:=fun _=>St->Prop) (fun _=>False) (fun _ ih s=>wp P G C (FnH P G) (LeS G,n0) c (vDS (fun s'=>∃ s'',LeS G n0 s' s''/\ih s'') Q) s) m s ->
    (Code.loop c).wpIn (Wd ro) n P (fun e a' w'=>∃ s' A' κ',vEP X F G N df s' a' w' A' κ'/\Q e s') a w:=by
    intro m s a w A κ hR h
    refine zIU (fun m a w=>∃ s A κ,vEP X F G N df s a w A κ/\Nat.rec (motive:=fun _=>St->Prop) (fun _=>False) (fun _ ih s=>wp P G C (FnH P G) (LeS G,n0) c (vDS (fun s'=>∃ s'',LeS G n0 s' s''/\ih s'') Q) s) m s)
     (fun m a w ⟨s,A,κ,hR,h⟩=>?_) (fun a w ⟨s,A,κ,hR,h⟩=>h) m a w ⟨s,A,κ,hR,h⟩
    refine wpIn_mono (zDC hm c X hC ro n F n0 hn df hmk _ s a w A κ hf hR h) fun e a' w' ⟨s',A',κ',hR',hq⟩=>?_
    cases e with
    | normal =>
      obtain⟨s'',hle,hrec⟩:=hq;obtain⟨E,hX,hF,hR'⟩:=hR';obtain⟨A'',κ'',hR''⟩:=hle E N df a' w' A' κ' ((zMP hF).trans hn) hR';have hR'':vEP X F G N df s'' a' w' A'' κ'':=⟨E,hX,hF,hR''⟩;exact⟨s'',A'',κ'',hR'',hrec⟩
    | _=>exact⟨s',A',κ',hR',hq⟩
   exact key m s0 a w A0 κ0 hR0 h
 | .region id ops D,X,hC,ro,n,F,n0,hn,df,hmk,Q,s,a,w,A,κ,hf,hR,h=>by
   simp only[vBU,rAO,rBG,rCE,rEL]at hf;cases D with
   | false=>exact wpIn_region_list (by
    have:=zL6 hC (D:=false) (ro:=ro) (n:=n) (Q:=fun e a' w'=>∃ s' A' κ',vEP X F G N df s' a' w' A' κ'/\Q e s') hf.1 (fun s a w A κ hR hK=>⟨s,A,κ,hR,hK⟩) ops.toList 0 [] s a w A κ (fun o ho=>ho) hR h
    simpa using this)
   | true =>
     have hl:=hf.2.resolve_left zsm;have h:wpOps P G C (FnH P G) (vDJ true ops.toList) ops.toList 0 [] ops.toList (Q .normal) s:=h;cases hc:calm ops.toList with
     | false =>
       rw[show vDJ true ops.toList=true by unfold vDJ; rw[hc]]at h;exact zLD hC hm hf.1 hl hR (fun s a w A κ hR hK=>⟨s,A,κ,hR,hK⟩) h
     | true =>
       rw[show vDJ true ops.toList=false by unfold vDJ; rw[hc]]at h;have:=zLE (id:=id) (ro:=ro) (n:=n) (Q:=fun e a' w'=>∃ s' A' κ',vEP X F G N df s' a' w' A' κ'/\Q e s') hC hm hf.1 (by simpa using hl) hc hR (fun s a w A κ hR hK=>⟨s,A,κ,hR,hK⟩) h
       simpa using this
 | .rangeFunc g ps x y,X,hC,ro,n,F,n0,hn,df,hmk,Q,s,a,w,A,κ,hf,hR,h=>by
   simp only[vBU,rAO]at hf;obtain⟨rfl,hmk'⟩:=hmk.resolve_left (by simp[noR])
   exact vL7 hC hmk' hn hf.1 (fun X hC ro n F n0 hn df Q s a w A κ=>zDC hm x X hC ro n F n0 hn df (rAW hf.2.2.1.1) Q s a w A κ hf.2.2.2.1)
    (fun X hC ro n F n0 hn df Q s a w A κ=>zDC hm y X hC ro n F n0 hn df (rAW hf.2.2.1.2) Q s a w A κ hf.2.2.2.2) Q s a w A κ hR h
 | .scope c,X,hC,ro,n,F,n0,hn,df,hmk,Q,s,a,w,A,κ,hf,hR,h=>by
   refine vLK (wpIn_mono (zDC hm c X hC ro n F n0 hn df hmk _ s a w A κ hf hR h) fun e a' w' ⟨s',A',κ',hR',hq⟩=>?_);cases e with
   | goto l=>exact hq.elim
   | _=>exact⟨s',A',κ',hR',hq⟩
 | .goto _,_,_,_,_,_,_,_,_,_,_,_,_,_,_,_,_,_,h=>h.elim
 | .refuse _,_,_,_,_,_,_,_,_,_,_,_,_,_,_,_,_,_,h=>h.elim
end
open Go.RowKit
def vEA(ds:List PV):Tm:=fun i=>ds.getD i (.tup [])
def vF9(P:Program)(s:St):ResultVar->Option PV
 | .tmp t=>some (s.t t)
 | .cell x ty=>match s.t x with
   | .ptr r j off=>(match s.h r with
     | some b=>(match b.els[j]? with
       | some e=>part e off (vA6 P ty).size (vA6 P ty).agg
       | none=>none)
     | none=>none)
   | _=>none
def vDF(P:Program)(s:St):List ResultVar->Option (List PV)
 | []=>some []
 | r::rs=>match vF9 P s r,vDF P s rs with
   | some v,some vs=>some (v::vs)
   | _,_=>none
def vFE(P:Program)(rs:List ResultVar)(s:St):Option PV :=
 match vDF P s rs with
 | some [v]=>some v
 | some vs=>some (.tup vs)
 | none=>none
def vDZ(N:Nat):ResultVar->Bool
 | .tmp t=>decide (t<N)
 | .cell x _=>decide (x<N)
def vF1(P:Program)(rs:List ResultVar)(K:PV->St->Prop):Exit->St->Prop
 | .normal,s | .ret,s=>∃ v,vFE P rs s=some v/\K v s
 | _,_=>False
section
variable {P:Program} {E:Env} {G:Gl} {N:Nat} {df:List Deferred} {w:World} {A:Nat->Prop} {κ:Ka} {s:St} {a:Act}
theorem vJH (hR:Rel E G N df s a w A κ) {r:ResultVar} {v:PV} (hf:vDZ N r=true) (h:vF9 P s r=some v) :
 ∃ u,(match r with | .tmp t=>(pure (a.tmps.getD t undef):Sem Value) | .cell x ty=>(do loadVar ty (<- asAddr (a.tmps.getD x undef)))).run P w=.ok u w/\RV w A κ v u:=by
 cases r with
 | tmp t =>
   simp only[vF9]at h;cases h
   exact⟨_,rfl,hR.tm t (by simpa [vDZ]using hf)⟩
 | cell x ty =>
   have hx:=hR.tm x (by simpa [vDZ]using hf);simp only[vF9]at h
   split at h
   .rename_i r j off hev
    rw[hev]at hx;obtain⟨m,sz,cap,hρ,hk⟩:=hx.ptr_inv
    split at h
    .rename_i b hb
     split at h
     .rename_i e hel
      obtain⟨m',cap',hk',_,hc⟩:=hR.hr.read hb (by rw[hk]; simp) hel;rw[hk]at hk'; cases hk'
      have hz:(vA6 P ty).size≠0\/(vA6 P ty).agg=true:=by
       rcases zHP h with⟨h,_⟩ | ⟨_,h,_⟩
       .exact rA0 h
       .left; omega
      obtain⟨v',h1,h2⟩:=zPP h hc hz;exact⟨v',by simp only[hρ,asAddr,Sem.run_bind]; exact h1,h2⟩
     .cases h
    .cases h
   .cases h
def vOK(tmps:Array Value):ResultVar->Sem Value
 | .tmp t=>pure (tmps.getD t undef)
 | .cell a t=>do loadVar t (<- asAddr (tmps.getD a undef))
theorem zGZ(hR:Rel E G N df s a w A κ):∀ (rs:List ResultVar) (vs:List PV),rs.all (vDZ N)=true->vDF P s rs=some vs->∃ us:List Value,(rs.mapM (vOK a.tmps)).run P w=.ok us w/\RVs w A κ vs us
 | [],vs,_,h=>by simp[vDF]at h; subst h; exact⟨[],rfl,rfl,fun i d hd=>by simp at hd⟩
 | r::rs,vs,hf,h=>by
   simp only[List.all_cons,rAO]at hf;simp only[vDF]at h
   split at h
   .rename_i v vs' h1 h2
    cases h
    obtain⟨u,hu,hru⟩:=vJH hR hf.1 h1;obtain⟨us,hus,hrs⟩:=zGZ hR rs vs' hf.2 h2;have hu':(vOK a.tmps r).run P w=.ok u w:=by cases r<;>exact hu
    refine⟨u::us,by simp[List.mapM_cons,hu',hus],by simp[hrs.1],fun i d hd=>?_⟩;cases i with
    | zero=>simp at hd; subst hd; simpa using hru
    | succ i=>have:=hrs.2 i d (by simpa using hd); simpa using this
   .cases h
theorem vGZ{fn:Func}(hR:Rel E G N df s a w A κ){rs:List ResultVar}(hrs:fn.results=rs.toArray){v:PV}(hf:rs.all (vDZ N)=true)(h:vFE P rs s=some v):∃ u,(results fn a.tmps).run P w=.ok u w/\RV w A κ v u:=by
 have key:∀ us:List Value,(rs.mapM (vOK a.tmps)).run P w=.ok us w->(results fn a.tmps).run P w=.ok (if h:us.toArray.size=1 then us.toArray[0] else .tuple us.toArray) w:=by
  intro us hus
  have e:results fn a.tmps=(do let vs <- fn.results.mapM (vOK a.tmps); pure (if h:vs.size=1 then vs[0] else .tuple vs)):=by
   unfold results
   congr 1
  rw[e,hrs];simp only[List.mapM_toArray,Sem.run_bind];simp[hus]
 unfold vFE at h
 split at h
 .rename_i v' hv
  cases h
  obtain⟨us,hus,hr⟩:=zGZ hR rs _ hf hv
  obtain⟨u,rfl⟩:∃ u,us=[u]:=by
   match us,hr.1 with
   | [u],_=>exact⟨u,rfl⟩
  refine⟨u,by rw[key _ hus]; simp,?_⟩
  simpa using hr.2 0 v rfl
 .rename_i vs hne hv
  cases h
  obtain⟨us,hus,hr⟩:=zGZ hR rs _ hf hv
  have hl:us.toArray.size≠1:=by
   intro h1;have:vs.length=1:=by have:=hr.1; simp at h1; omega
   match vs,this with
   | [x],_=>exact hne x rfl
  refine⟨.tuple us.toArray,by rw[key _ hus,dif_neg hl],.tup _ _ (by simpa using hr.1.symm) fun i d hd=>?_⟩;have:=hr.2 i d hd
  simpa [rBF,List.getD]using this
 .cases h
theorem vH2{ds:List PV}{vs:List Value}(h:RVs w A κ ds vs){nt:Nat}(hn:ds.length<=nt) :
 (vs.toArray++Array.replicate (nt - vs.toArray.size) undef).size=nt/\∀ i,i<nt->RV w A κ (vEA ds i) ((vs.toArray++Array.replicate (nt - vs.toArray.size) undef).getD i undef):=by
 have hl:=h.1;refine⟨by simp; omega,fun i hi=>?_⟩;unfold vEA;by_cases h1:i<ds.length
 .have h2:=h.2 i ds[i] (rAQ h1)
  have h3:i<vs.length:=by omega
  have e1:ds.getD i (.tup [])=ds[i]:=by simp[List.getD,h1]
  rw[e1]
  have e2:(vs.toArray++Array.replicate (nt - vs.toArray.size) undef).getD i undef=vs.getD i undef:=by
   simp only[rBF];rw[rGC (by simpa using h3)];simp[List.getD]
  rw[e2];exact h2
 .have e1:ds.getD i (.tup [])=.tup []:=by simp[List.getD,rCZ (rDB h1)]
  rw[e1];have h3:¬ i<vs.length:=by omega
  have e2:(vs.toArray++Array.replicate (nt - vs.toArray.size) undef).getD i undef=undef:=by
   simp only[rBF];rw[Array.getElem?_append_right rAE];by_cases h4:i - vs.toArray.size<nt - vs.toArray.size
   .simp only[rFS]at h4
    simp[rGL,h4]
   .simp only[rFS]at h4
    simp[rGL,h4]
  rw[e2];exact .tup [] _ rfl (fun i d hd=>by simp at hd)
structure FnOk(P:Program)(f:FuncId)(fn:Func)(c:Code)(rs:List ResultVar)(nt:Nat):Prop where
 hf:P.funcs[f]?=some fn
 hb:fn.body=some c
 hn : fn.name ≠ "runtime.NumGoroutine"
 ht:fn.ntmps=nt
 hr:fn.results=rs.toArray
 fits:vBU nt c=true
 rfits:rs.all (vDZ nt)=true
theorem FnOk.callable{f:FuncId}{fn:Func}{c:Code}{rs:List ResultVar}{nt:Nat}(h:FnOk P f fn c rs nt):callable P f=true:=by
 simp[Go.PI.callable,h.hf,h.hb,h.hn]
theorem HR.m0{h:Hp}{z:Fz}{M0:List Nat}(hm:∀ D,D∈E.M->D∈E.M0\/¬ E.K D)(H:HR { E with M0:=M0 } G w A κ h z):HR E G w A κ h z :=
 ⟨H.bel,H.hB,H.alt,H.a0,H.a1,H.acell,H.k0,H.glob,H.klt,⟨H.kp.base,H.kp.keep,H.kp.wr,H.kp.own,H.kp.mks,H.kp.nd,H.kp.kb,H.kp.kk,H.kp.zk,hm,H.kp.gk⟩,H.blk,H.excl⟩
theorem HR.m0'{h:Hp}{z:Fz}{M0:List Nat}(hm:∀ D,D∈E.M->D∈M0\/¬ E.K D)(H:HR E G w A κ h z):HR { E with M0:=M0 } G w A κ h z :=
 ⟨H.bel,H.hB,H.alt,H.a0,H.a1,H.acell,H.k0,H.glob,H.klt,⟨H.kp.base,H.kp.keep,H.kp.wr,H.kp.own,H.kp.mks,H.kp.nd,H.kp.kb,H.kp.kk,H.kp.zk,hm,H.kp.gk⟩,H.blk,H.excl⟩
theorem HR.unmark{h:Hp}{z:Fz}{D:Nat}{M:List Nat}(hM:E.M=D::M)(hK:¬ E.K D)(H:HR E G w A κ h z):HR { E with M:=M } G (w.putObj D (.deferred none)) A κ h z/\∀ b o,A b->(w.putObj D (.deferred none)).cell? ⟨b,o,none⟩=w.cell? ⟨b,o,none⟩:=by
 obtain⟨d1,⟨d2,d3⟩,d4⟩:=H.kp.mks D (by rw[hM]; simp);have hcell:∀ b o,A b->(w.putObj D (.deferred none)).cell? ⟨b,o,none⟩=w.cell? ⟨b,o,none⟩:=fun b o hA=>cell?_of_heap (World.putObj_heap_other (r:=D) (k:=b) (fun e=>by subst e; exact d3 hA)) o
 have mono:∀ {d v},RV w A κ d v->RV (w.putObj D (.deferred none)) A κ d v:=fun hv=>hv.mono (fun _ h=>h) hcell (fun _ _ h=>h)
 have hnd:=H.kp.nd;rw[hM,rEE]at hnd;refine⟨⟨H.bel.trans ⟨rfl,rfl,rfl,zsm,fun k hk=>World.putObj_heap_other zom⟩,by simp[H.hB],fun b hb=>by simp; exact H.alt b hb,H.a0,H.a1,fun b o hb=>(hcell b o (H.a0 b hb)).trans (H.acell b o hb),H.k0,fun g e hg=>mono (H.glob g e hg),fun r m sz cap hr=>by simpa using H.klt r m sz cap hr,⟨H.kp.base.trans ⟨rfl,rfl,rfl,zsm,fun k hk=>by omega⟩,fun b hb=>⟨by simp; exact(H.kp.keep b hb).1,?_⟩,H.kp.wr,H.kp.own,fun D' hD'=>?_,hnd.2,H.kp.kb.trans ⟨rfl,rfl,rfl,zsm,fun k hk=>by omega⟩,fun b hb=>⟨by simp; exact(H.kp.kk b hb).1,(World.putObj_heap_other (r:=D) (k:=b) (fun e=>by subst e; exact hK hb)).trans (H.kp.kk b hb).2.1,(H.kp.kk b hb).2.2⟩,H.kp.zk,fun D' hD'=>H.kp.mk0 D' (by rw[hM]; exact rBC _ hD'),H.kp.gk⟩,fun r b hb hκ=>?_,H.excl⟩,hcell⟩
 .exact(World.putObj_heap_other (r:=D) (k:=b) (fun e=>by subst e; exact d2 hb)).trans (H.kp.keep b hb).2
 .have:=H.kp.mks D' (by rw[hM]; exact rBC _ hD')
  exact⟨this.1,this.2.1,(World.putObj_heap_other (r:=D) (k:=D') (fun e=>by subst e; exact hnd.1 hD')).trans this.2.2⟩
 .obtain⟨m,cap,h1,h2,h3,h4⟩:=H.blk r b hb hκ
  refine⟨m,cap,h1,h2,h3,?_⟩;rcases h4 with h4 | ⟨c,ty,g1,g2,g3,g4,g5,g6,g7⟩
  .exact rAW h4
  .exact rA0 ⟨c,ty,g1,(World.putObj_heap_other (fun e=>by rw[e,d4]at g2; cases g2)).trans g2,g3,g4,fun i e he=>(g5 i e he).mono (fun _ h=>h) hcell (fun _ _ h=>h),g6,g7⟩
theorem zFZ{F:Fence}{n:Nat}{fn:Func}{rs:List ResultVar}(hrs:fn.results=rs.toArray)(hf:rs.all (vDZ N)=true){v:PV}(h:vFE P rs s=some v){R:Ending->World->Prop} :
 ∀ (Ms:List Nat) (E:Env) (w:World) (a:Act),E.M=Ms++E.M0->HR E G w A κ s.h s.z->vDA s.nx κ s.h s.z->E.n0<=s.nx->(∀ i,i<N->RV w A κ (s.t i) (a.tmps.getD i undef))->a.tmps.size=N ->
   (∀ w' u,HR { E with M:=E.M0 } G w' A κ s.h s.z->RV w' A κ v u->R (.returned u) w')->LeavesInM F n P fn a.tmps R (Ms.map mkD) .returning w
 | [],E,w,a,hM,H,h1,h2,h3,h4,hR=>by
   have hM':E.M=E.M0:=hM;obtain⟨u,hu,hru⟩:=vGZ (df:=[]) (a:={ a with defers:=[] }) ⟨H,h1,h2,h3,h4,[],hM,rfl⟩ hrs hf h;refine⟨u,hu,hR w u ?_ hru⟩;have:({ E with M:=E.M0 }:Env)=E:=by cases E; cases hM'; rfl
   rw[this]; exact H
 | D::Ms,E,w,a,hM,H,h1,h2,h3,h4,hR=>by
   have hd:=(H.kp.mks D (by rw[hM]; simp)).2.2
   have hnK:¬ E.K D:=(H.kp.mk0 D (by rw[hM]; simp)).resolve_left fun hD=>by
    have:=H.kp.nd;rw[hM,List.cons_append,rEE]at this;exact this.1 (rBV _ hD)
   obtain⟨H',hcell⟩:=H.unmark (D:=D) (M:=Ms++E.M0) (by rw[hM]; rfl) hnK;refine⟨zsm,rAW ⟨D,_,rfl,run_takeDeferred hd,?_⟩⟩;exact zFZ hrs hf h Ms { E with M:=Ms++E.M0 } _ a rfl H' h1 h2 (fun i hi=>(h3 i hi).mono (fun _ h=>h) hcell (fun _ _ h=>h)) h4 fun w' u q1 q2=>hR w' u q1 q2
theorem zH1(hm:P.follows .mixedOrders=true){f:FuncId}{fn:Func}{c:Code}{rs:List ResultVar}{nt:Nat}(ok:FnOk P f fn c rs nt){C:vA8}{X:Env->Prop}{n0:Nat}(hC:XOk P G C X)(hmk:∀ E M,X E->X { E with M:=M })(hn:E.n0=n0)(hX:X E)(hM:E.M=E.M0){ds:List PV}(hl:ds.length<=nt){K:PV->St->Prop}{s:St}
 (h:wp P G C (FnH P G) (LeS G,n0) c (vF1 P rs K) { s with t:=vEA ds }) {vs:List Value} (h1:E.n0<=s.nx) (H:HR E G w A κ s.h s.z) (h6:vDA s.nx κ s.h s.z) (h7:RVs w A κ ds vs) :
 Calls P f vs.toArray w fun e w'=>∃ E' v pv A' κ' s',(X E'/\E'.re E=E')/\e=.returned v/\HR { E' with M:=E'.M0 } G w' A' κ' s'.h s'.z/\vDA s'.nx κ' s'.h s'.z/\E'.n0<=s'.nx/\RV w' A' κ' pv v/\K pv s':=by
 refine callsIn_wd (ro:=none) (n:=0).1 (callsIn_of_wp_marks ok.hf ok.hb trivial ?_);rw[ok.ht];obtain⟨hsz,htm⟩:=vH2 h7 hl
 have hR:vEP X E G nt [] { s with t:=vEA ds } { tmps:=vs.toArray++Array.replicate (nt - vs.toArray.size) undef,defers:=[] } w A κ :=
  ⟨E,hX,rfl,H,h6,h1,htm,hsz,[],hM,rfl⟩
 have:=zDC hm c X hC none 0 E n0 hn [] (rA0 ⟨rfl,hmk⟩) _ _ _ w A κ ok.fits hR h;refine wpIn_mono this fun e a' w' ⟨s',A',κ',⟨E',hX',hF',hR'⟩,hq⟩=>?_
 have fin:(∃ v,vFE P rs s'=some v/\K v s')->LeavesInM (Wd none) 0 P fn a'.tmps (fun e w'=>∃ E' v pv A' κ' s',(X E'/\E'.re E=E')/\e=.returned v/\HR { E' with M:=E'.M0 } G w' A' κ' s'.h s'.z/\vDA s'.nx κ' s'.h s'.z/\E'.n0<=s'.nx/\RV w' A' κ' pv v/\K pv s') a'.defers .returning w':=by
  rintro⟨v,hv,hK⟩
  obtain⟨Ms,hMs,hd⟩:=hR'.df;rw[hd,rBQ];exact zFZ ok.hr ok.rfits hv Ms E' w' a' hMs hR'.hr hR'.fresh hR'.n0 hR'.tm hR'.size fun w'' u q1 q2=>⟨E',u,v,A',κ',s',⟨hX',hF'⟩,rfl,q1,hR'.fresh,hR'.n0,q2,hK⟩
 cases e with
 | normal=>exact fin hq
 | ret=>exact fin hq
 | _=>exact hq.elim
def vVY(E:Env):Env->Prop:=fun E'=>∃ M F,E'={ E with M:=M }.re F
theorem vRT(E:Env):∀ E' M',vVY E E'->vVY E { E' with M:=M' }:=fun E' M' ⟨M,F,h⟩=>⟨M',F,by rw[h]; rfl⟩
theorem uBZ(E:Env):XOk P G (FnC P G) (vVY E) :=
 ⟨fun E' F ⟨M,F',h⟩ _=>⟨M,F,by rw[h]; rfl⟩,fun f ds r _ h=>h,fun f ds i j b h=>h.2.elim,fun l ds i j b h=>h.2.elim⟩
theorem zH5(hm:P.follows .mixedOrders=true){f:FuncId}{fn:Func}{c:Code}{rs:List ResultVar}{nt:Nat}(ok:FnOk P f fn c rs nt){ds:List PV}(hl:ds.length<=nt){K:PV->St->Prop}{s:St}
 (h:wp P G (FnC P G) (FnH P G) (LeS G,s.nx) c (vF1 P rs K) { s with t:=vEA ds }):FnH P G f ds K s:=by
 refine⟨ok.callable,fun E w A κ vs h1 h2 h3 h4 h5 h6 h7=>?_⟩;have H1:=h5.m0' (M0:=E.M) fun D hD=>rAW hD
 have:=zH1 (E:={ E with M0:=E.M }) hm ok (uBZ (P:=P) (G:=G) { E with M0:=E.M }) (vRT _) rfl ⟨E.M,{ E with M0:=E.M },rfl⟩ rfl hl (s:=s) (K:=K) (by show wp P G (FnC P G) (FnH P G) (LeS G,E.n0) c (vF1 P rs K) _; rw[h1]; exact h) (Nat.le_of_eq h1) H1 h6 h7;refine this.mono fun e w' ⟨E',v,pv,A',κ',s',⟨⟨M',F',hE'⟩,hre⟩,g1,g2,g3,g4,g5,g6⟩=>?_
 rw[hE']at hre;rw[<- hre]at hE';subst hE';exact⟨v,pv,A',κ',s',g1,g2.m0 h5.kp.mk0,g3,by rw[<- h1]; exact g4,g5,g6⟩
def start(ds:List PV):St:={ t:=vEA ds,h:=fun _=>none,z:=fun _=>false,nx:=0 }
theorem vPW{A:Nat->Prop}(hA:∀ b,A b->b<w.heap.size)(hg:Gok G w A):HR { w0:=w,w1:=w,B:=w.heap.size,A0:=A,n0:=0,κ0:=fun _=>none,ws:=w,kw:=w } G w A (fun _=>none) (fun _=>none) (fun _=>false) :=
 ⟨Below.refl _ _,rAR _,hA,fun _ h=>h,fun _ h=>rAW h,fun _ _ _=>rfl,fun r hr=>(by cases hr),hg,fun r m sz cap hr=>(by cases hr),⟨Below.refl _ _,fun b hb=>hb.elim,fun b hb=>hb.elim,fun r b m sz cap hr=>(by cases hr),fun D hD=>(by cases hD),rDT,Below.refl _ _,fun b hb=>hb.elim,fun b hb=>hb.elim,fun D hD=>(by cases hD),fun hg=>(by cases hg)⟩,fun r b hr=>(by cases hr),fun r r' b b' m m' s s' c c' hne hr=>(by cases hr)⟩
theorem vNW(hm:P.follows .mixedOrders=true){f:FuncId}{fn:Func}{c:Code}{rs:List ResultVar}{nt:Nat}(ok:FnOk P f fn c rs nt){ds:List PV}(hl:ds.length<=nt){K:PV->St->Prop}
 (h:wp P G (FnC P G) (FnH P G) (LeS G,0) c (vF1 P rs K) (start ds)) {w:World} {A:Nat->Prop} {vs:List Value} (hA:∀ b,A b->b<w.heap.size) (hg:Gok G w A) (hd:RDs w A ds vs) :
 Calls P f vs.toArray w fun e w'=>∃ v pv A' κ' s',e=.returned v/\HR { w0:=w,w1:=w,B:=w.heap.size,A0:=A,n0:=0,κ0:=fun _=>none,ws:=w,kw:=w } G w' A' κ' s'.h s'.z/\RV w' A' κ' pv v/\K pv s':=by
 have:=(zH5 hm ok hl (K:=K) (s:=start ds) h).2 _ w A (fun _=>none) vs rfl rfl rfl rfl (vPW hA hg) (fun r _=>⟨rfl,rfl,rfl⟩) ⟨hd.1,fun i d hi=>.data _ _ (hd.2 i d hi)⟩;exact this.mono fun e w' ⟨v,pv,A',κ',s',h1,h2,_,_,h5,h6⟩=>⟨v,pv,A',κ',s',h1,h2,h5,h6⟩
theorem uAM(hm:P.follows .mixedOrders=true){f:FuncId}{fn:Func}{c:Code}{rs:List ResultVar}{nt:Nat}(ok:FnOk P f fn c rs nt){ds:List PV}(hl:ds.length<=nt){d:PV}
 (h:wp P G (FnC P G) (FnH P G) (LeS G,0) c (vF1 P rs fun v s=>∃ ks,frz s.h 4 v=some (d,ks)) (start ds)):FnC P G f ds (.data d):=by
 refine⟨ok.callable,fun w A vs hA hg hd=>(vNW hm ok hl h hA hg hd).mono fun e w' ⟨v,pv,A',κ',s',h1,h2,h3,ks,h4⟩=>⟨v,h1,h2.bel,?_⟩⟩;have hf:=h2.freeze (zIH 4 pv d ks h4);have:=zFH h2 (A':=fun b=>A' b\/vBQ κ' ks b) (fun b hb=>rAW hb) 4 pv d v ks h4 h3 (fun b hb=>rA0 hb)
 exact this.mono (fun b hb=>by
  rcases hf.a1 b hb with h | h
  .exact rAW h
  .exact rA0 ⟨h,hf.alt b hb⟩) (fun _ _ _=>rfl)
theorem zOU(hm:P.follows .mixedOrders=true){f:FuncId}{fn:Func}{c:Code}{rs:List ResultVar}{nt:Nat}(ok:FnOk P f fn c rs nt){ds:List PV}(hl:ds.length<=nt){els:List PV}{sz:Nat}{agg:Bool}
 (h:wp P G (FnC P G) (FnH P G) (LeS G,0) c (vF1 P rs fun v s=>(v=.nilsl/\els=[])\/∃ r b ks,v=.own r 0 els.length/\s.h r=some b/\b.sz=sz/\b.agg=agg/\b.els.length=els.length/\s.z r=false/\vB7 (frz s.h 4) b.els=some (els,ks)/\ks.contains r=false) (start ds)) :
 FnC P G f ds (.fresh els sz agg):=by
 refine⟨ok.callable,fun w A vs hA hg hd=>(vNW hm ok hl h hA hg hd).mono fun e w' ⟨v,pv,A',κ',s',h1,h2,h3,hq⟩=>⟨v,h1,h2.bel,?_⟩⟩;rcases hq with⟨hpv,he⟩ | ⟨r,b,ks,hpv,hb,hsz,hagg,hlen,hz,hfr,hks⟩
 .subst hpv he
  rw[h3.nilsl_inv];exact⟨none,0,rfl,rAR _,fun e he=>(by cases he),rAW rfl⟩
 subst hpv;rw[<- hsz,<- hagg];have hf:=h2.freeze (zBY hfr);obtain⟨m,sz',cap,a,rfl,hκ,hle,ha⟩:=h3.own_inv;obtain⟨m0,cap0,e1,e2,e3,e4⟩:=h2.blk r b hb (by rw[hκ]; simp);rw[hκ]at e1; cases e1;obtain⟨g1,g2⟩:=zCD hfr;refine⟨a,cap,zsm,zom,fun e he=>?_,?_⟩
 .obtain⟨i,hi,rfl⟩:=rA8 he
  obtain⟨x,ks1,q1,q2,q3⟩:=g2 i _ (rAQ hi);obtain⟨c1,c2,_⟩:=zFI q2;have:=e3 x (rAS q1);exact⟨by rw[c1]; exact this.1,by rw[c2]; exact this.2⟩
 .by_cases hc0:cap=0
  .exact rAW hc0
  .obtain⟨c',ty,f1,f2,f3,f4,f5,f6,f7⟩:=e4.resolve_left hc0
   have ha':=ha.resolve_right hc0;subst ha'
   have hmA:¬ (A' m\/vBQ κ' ks m):=by
    rintro(h | ⟨r',hr',sz',cap',hκ',hc'⟩)
    .exact f6 hz h
    .obtain⟨b',hb'⟩:=zBY hfr r' hr'
     have hne:r≠r':=fun e=>by subst e; simp at hks; exact hks hr'
     exact h2.excl r r' b b' m m _ _ _ _ hne hb hb' hκ hκ' hc0 hc' rfl
   refine rA0 ⟨m,c',ty,zsm,f1,f2,f3,f4,fun i e he j x hx=>?_⟩;obtain⟨y,ks1,q1,q2,q3⟩:=g2 i e he;obtain⟨_,_,hcel⟩:=zFI q2;obtain⟨m',y',ks2,p1,p2,p3,p4⟩:=hcel j x hx;obtain⟨u,t1,t2,t3⟩:=f5 i y q1 j y' p2;refine⟨u,t1,.data _ _ ?_,t3⟩;have:=zFH h2 (A':=fun b=>A' b\/vBQ κ' ks b) (fun b hb=>rAW hb) m' y' x u ks2 p3 t2 (fun b ⟨r,hr,q⟩=>rA0 ⟨r,q3 r (p4 r hr),q⟩)
   exact this.mono (fun b hb=>by
    have hne:b≠m:=fun e=>hmA (e ▸ hb)
    rcases hf.a1 b hb with h | h
    .exact rAW h
    .exact rA0 ⟨h,hf.alt b hb,hne⟩) (fun _ _ _=>rfl)
end
open Go.RowKit
def sl:List (Nat×PV)->Tm
 | [],_=>.any
 | (j,v)::l,i=>if i=j then v else sl l i
def hl:List (Nat×Blk)->Hp
 | [],_=>none
 | (j,b)::l,i=>if i=j then some b else hl l i
def zl(l:List Nat):Fz:=fun r=>l.contains r
def rnL(f:PV->PV->Prop):List PV->List PV->Prop
 | [],[]=>True
 | a::as,b::bs=>f a b/\rnL f as bs
 | _,_=>False
def rn(ρ:Nat->Nat)(nx:Nat):Nat->PV->PV->Prop
 | _,.any,_=>True
 | _,.own r off len,v=>r<nx/\v=.own (ρ r) off len
 | _,.ptr r i off,v=>r<nx/\v=.ptr (ρ r) i off
 | n+1,.agg cs,v=>match v with
   | .agg cs'=>rnL (rn ρ nx n) cs cs'
   | _=>False
 | n+1,.func fn f c,v=>match v with
   | .func fn' f' c'=>fn=fn'/\rnL (rn ρ nx n) f f'/\rnL (rn ρ nx n) c c'
   | _=>False
 | n+1,.tup cs,v=>match v with
   | .tup cs'=>rnL (rn ρ nx n) cs cs'
   | _=>False
 | _,.int k n,v=>v=.int k n
 | _,.bool b,v=>v=.bool b
 | _,.str s,v=>v=.str s
 | _,.imm es,v=>v=.imm es
 | _,.nilsl,v=>v=.nilsl
 | _,.cptr e o,v=>v=.cptr e o
 | _,.nilfunc,v=>v=.nilfunc
 | _,.raw u,v=>v=.raw u
 | _,.anyb,v=>v=.anyb
 | _,_,_=>False
def rnB(ρ:Nat->Nat)(nx:Nat)(b' b:Blk):Prop :=
 b'.sz=b.sz/\b'.agg=b.agg/\((b'.els=b.els/\∀ e∈b.els,nr 3 e=true)\/rnL (rn ρ nx 3) b'.els b.els)
section
variable {w:World} {A:Nat->Prop} {κ κ':Ka}
theorem zER{f:PV->PV->Prop}:∀ {as bs:List PV},rnL f as bs->as.length=bs.length/\∀ (i:Nat) a,as[i]?=some a->∃ b,bs[i]?=some b/\f a b
 | [],[],_=>⟨rfl,fun i a h=>by simp at h⟩
 | a::as,b::bs,h=>by
   obtain⟨h1,h2⟩:=h;obtain⟨g1,g2⟩:=zER h2;refine⟨by simp[g1],fun i x hx=>?_⟩;cases i with
   | zero=>simp at hx; subst hx; exact⟨b,rfl,h1⟩
   | succ i=>simpa using g2 i x (by simpa using hx)
 | [],_::_,h=>h.elim
 | _::_,[],h=>h.elim
theorem RV.rn{ρ:Nat->Nat}{nx:Nat}(hk:∀ r,r<nx->κ' r=κ (ρ r)):∀ (n:Nat) (d' d:PV) (v:Value),Go.PI.rn ρ nx n d' d->RV w A κ d v->RV w A κ' d' v:=by
 intro n
 induction n with
 | zero =>
   intro d' d v hr h;cases d' with
   | any=>exact .any _
   | own r off len =>
     obtain⟨h1,rfl⟩:=hr;obtain⟨m,sz,cap,a,rfl,g1,g2,g3⟩:=h.own_inv;exact .own r off len m sz cap a (by rw[hk r h1]; exact g1) g2 g3
   | ptr r i off =>
     obtain⟨h1,rfl⟩:=hr;obtain⟨m,sz,cap,rfl,g1⟩:=h.ptr_inv;exact .ptr r i off m sz cap (by rw[hk r h1]; exact g1)
   | agg=>exact hr.elim
   | tup=>exact hr.elim
   | func=>exact hr.elim
   | _=>simp only[Go.PI.rn]at hr; subst hr; exact RV.nr_any 0 _ v rfl h
 | succ n ih =>
   intro d' d v hr h;cases d' with
   | any=>exact .any _
   | own r off len =>
     obtain⟨h1,rfl⟩:=hr;obtain⟨m,sz,cap,a,rfl,g1,g2,g3⟩:=h.own_inv;exact .own r off len m sz cap a (by rw[hk r h1]; exact g1) g2 g3
   | ptr r i off =>
     obtain⟨h1,rfl⟩:=hr;obtain⟨m,sz,cap,rfl,g1⟩:=h.ptr_inv;exact .ptr r i off m sz cap (by rw[hk r h1]; exact g1)
   | agg cs =>
     simp only[Go.PI.rn]at hr
     split at hr
     .rename_i cs'
      obtain⟨g1,g2⟩:=zER hr;obtain⟨vs,rfl,h1,h2,h3⟩:=h.agg_inv;refine .agg cs vs zom (fun i x hx=>?_) (fun i hi=>h3 i zom);obtain⟨y,hy,hxy⟩:=g2 i x hx;exact ih x y _ hxy (h2 i y hy)
     .exact hr.elim
   | tup cs =>
     simp only[Go.PI.rn]at hr
     split at hr
     .rename_i cs'
      obtain⟨g1,g2⟩:=zER hr;obtain⟨vs,rfl,h1,h2⟩:=h.tup_inv;refine .tup cs vs zom (fun i x hx=>?_);obtain⟨y,hy,hxy⟩:=g2 i x hx;exact ih x y _ hxy (h2 i y hy)
     .exact hr.elim
   | func fn f c =>
     simp only[Go.PI.rn]at hr
     split at hr
     .rename_i fn' f' c'
      obtain⟨rfl,hf,hc⟩:=hr;obtain⟨g1,g2⟩:=zER hf;obtain⟨k1,k2⟩:=zER hc;obtain⟨fs,cs,rfl,h1,h2,h3,h4⟩:=h.func_inv;refine .func fn f c fs cs zom zom (fun i x hx=>?_) (fun i x hx=>?_)
      .obtain⟨y,hy,hxy⟩:=g2 i x hx
       exact ih x y _ hxy (h3 i y hy)
      .obtain⟨y,hy,hxy⟩:=k2 i x hx
       exact ih x y _ hxy (h4 i y hy)
     .exact hr.elim
   | _=>simp only[Go.PI.rn]at hr; subst hr; exact RV.nr_any 0 _ v rfl h
theorem uFM:∀ {l:List (Nat×PV)} {i:Nat},sl l i=.any\/(i,sl l i)∈l
 | [],i=>rAW rfl
 | (j,v)::l,i=>by
   unfold sl
   split
   .rename_i h; subst h; exact rA0 zsm
   .rcases uFM (l:=l) (i:=i) with h | h
    .exact rAW h
    .exact rA0 (rBC _ h)
theorem zDY:∀ {l:List (Nat×Blk)} {i:Nat} {b:Blk},hl l i=some b->(i,b)∈l
 | (j,v)::l,i,b,h=>by
   unfold hl at h
   split at h
   .rename_i e; subst e; cases h; simp
   .exact rBC _ (zDY h)
theorem zMU{ρ:Nat->Nat}{nx n:Nat}{e' e:PV}(h:Go.PI.rn ρ nx n e' e)(hs:e'≠.any):e'.cells.length=e.cells.length/\e'.isAgg=e.isAgg/\∀ (j:Nat) x,e'.cells[j]?=some x->∃ m y,e.cells[j]?=some y/\Go.PI.rn ρ nx m x y:=by
 have one:∀ (e' e:PV),e'.cells=[e']->e.cells=[e]->e'.isAgg=false->e.isAgg=false->Go.PI.rn ρ nx n e' e->e'.cells.length=e.cells.length/\e'.isAgg=e.isAgg/\∀ (j:Nat) x,e'.cells[j]?=some x->∃ m y,e.cells[j]?=some y/\Go.PI.rn ρ nx m x y:=by
  intro e' e h1 h2 h3 h4 h;rw[h1,h2,h3,h4];refine⟨rfl,rfl,fun j x hj=>?_⟩;cases j with
  | zero=>simp at hj; subst hj; exact⟨n,e,rfl,h⟩
  | succ j=>simp at hj
 cases e' with
 | any=>exact absurd rfl hs
 | agg cs =>
   cases n with
   | zero=>exact h.elim
   | succ n =>
     simp only[Go.PI.rn]at h
     split at h
     .rename_i cs'
      obtain⟨g1,g2⟩:=zER h;exact⟨g1,rfl,fun j x hj=>let ⟨y,hy,hxy⟩:=g2 j x hj; ⟨n,y,hy,hxy⟩⟩
     .exact h.elim
 | own r off len=>have h':=h; cases n<;>(obtain⟨_,rfl⟩:=h; exact one _ _ rfl rfl rfl rfl h')
 | ptr r i off=>have h':=h; cases n<;>(obtain⟨_,rfl⟩:=h; exact one _ _ rfl rfl rfl rfl h')
 | tup cs =>
   cases n with
   | zero=>exact h.elim
   | succ n =>
     have h':=h;simp only[Go.PI.rn]at h
     split at h
     .exact one _ _ rfl rfl rfl rfl h'
     .exact h.elim
 | func fn f c =>
   cases n with
   | zero=>exact h.elim
   | succ n =>
     have h':=h;simp only[Go.PI.rn]at h
     split at h
     .exact one _ _ rfl rfl rfl rfl h'
     .exact h.elim
 | _=>have h':=h; cases n<;>(simp only[Go.PI.rn]at h; subst h; exact one _ _ rfl rfl rfl rfl h')
end
theorem uG0{G:Gl}{n0:Nat}{s:St}{L:List (Nat×PV)}{H:List (Nat×Blk)}{Z:List Nat}{k:Nat}(ρ:Nat->Nat)(h0:n0<=k)(hρ:∀ r,r<n0->ρ r=r)
 (hL:∀ p∈L,rn ρ k 3 p.2 (s.t p.1)) (hH:∀ q∈H,q.1<k/\(∀ e∈q.2.els,e≠.any)/\∃ b,s.h (ρ q.1)=some b/\rnB ρ k q.2 b/\zl Z q.1=s.z (ρ q.1)) (hZ:∀ r∈Z,r<k)
 (hinj:∀ p∈H,∀ q∈H,p.1≠q.1->ρ p.1≠ρ q.1):LeS G n0 s { t:=sl L,h:=hl H,z:=zl Z,nx:=k }:=by
 intro E N df a w A κ hE hR;subst hE;let κ':Ka:=fun r=>if r<k then κ (ρ r) else none
 have hk':∀ r,r<k->κ' r=κ (ρ r):=fun r hr=>by simp[κ',hr]
 refine ⟨A, κ', ⟨?_, fun r hr => ⟨?_, ?_, by have:¬ r<k:=by have:k<=r:=hr; omega
                                             simp[κ',this]⟩,h0,fun i hi=>?_,hR.size,hR.df⟩⟩
 .have H0:=hR.hr
  refine⟨H0.bel,H0.hB,H0.alt,H0.a0,H0.a1,H0.acell,fun r hr=>?_,fun g e hg=>?_,fun r m sz cap hr=>?_,⟨H0.kp.base,H0.kp.keep,H0.kp.wr,fun r b' m sz cap hb hκ hc hz=>?_,H0.kp.mks,H0.kp.nd,H0.kp.kb,H0.kp.kk,H0.kp.zk,H0.kp.mk0,fun hg=>?_⟩,fun r b' hb hκ=>?_,fun r r' b b' m m' s1 s2 c c' hne hr hr' h1 h2 hc hc'=>?_⟩
  .rw[hk' r zom,hρ r hr]; exact H0.k0 r hr
  .obtain⟨b,o,val,hv,h1,h2,h3⟩:=(H0.glob g e hg).cptr_inv
   rw[hv]; exact .data _ _ (.cptr e 0 b o val h1 h2 h3)
  .by_cases hlt:r<k
   .rw[hk' r hlt]at hr; exact H0.klt (ρ r) m sz cap hr
   .simp[κ',hlt]at hr
  .obtain⟨h1,_,b,h2,_,h5⟩:=hH _ (zDY hb)
   rw[hk' r h1]at hκ;exact H0.kp.own _ b m sz cap h2 hκ hc (by rw[<- h5]; exact hz)
  .obtain⟨g1,g2,g3⟩:=H0.kp.gk hg
   refine⟨g1,by rw[hk' 0 zom,hρ 0 g1]; exact g2,fun b hb=>?_⟩;obtain⟨h1,hany,b0,h2,⟨h3,h3',h4⟩,h5⟩:=hH _ (zDY hb);rw[hρ 0 g1]at h2;have e:=g3 b0 h2;subst e;obtain⟨els,sz,agg⟩:=b;simp only[vC7]at h3 h3' h4;subst h3 h3'
   have:els=[.int .i64 E.gi]:=by
    rcases h4 with h | h
    .exact h.1
    .match els,h with
     | [x],h =>
       have h':=h.1;have hx:x≠.any:=hany x zsm;cases x<;>simp[rn]at h' hx ⊢<;>simp[h']
   rw[this]; rfl
  .obtain⟨h1,hany,b,h2,⟨h3,h3',h4⟩,h5⟩:=hH _ (zDY hb)
   obtain⟨m,cap,g1,g2,g3,g4⟩:=H0.blk _ b h2 (by rw[<- hk' r h1]; exact hκ)
   have hlen:b'.els.length=b.els.length:=by
    rcases h4 with h | h
    .rw[h.1]
    .exact(zER h).1
   refine⟨m,cap,by rw[hk' r h1,g1,h3],zom,fun e he=>?_,?_⟩
   .rcases h4 with h | h
    .rw[h3,h3']; exact g3 e (by rw[<- h.1]; exact he)
    .obtain⟨i,hi,rfl⟩:=rA8 he
     obtain⟨y,hy,hxy⟩:=(zER h).2 i _ (rAQ hi);obtain⟨c1,c2,_⟩:=zMU hxy (hany _ he);have:=g3 y (rAS hy);rw[h3,h3',c1,c2]; exact this
   .rcases g4 with g4 | ⟨c,ty,f1,f2,f3,f4,f5,f6,f7⟩
    .exact rAW g4
    .refine rA0 ⟨c,ty,f1,f2,by rw[h3]; exact f3,f4,fun i e he j x hx=>?_,fun hz=>f6 (by rw[<- h5]; exact hz),fun hz=>f7 (by rw[<- h5]; exact hz)⟩
     rw[h3];rcases h4 with h | h
     .rw [h.1]at he
      obtain⟨v,q1,q2,q3⟩:=f5 i e he j x hx;refine⟨v,q1,?_,q3⟩;have hnr:=h.2 e (rAS he)
      have hnx:∃ n,nr n x=true:=by
       cases e with
       | agg cs =>
         simp only[nr,rBG]at hnr;exact⟨2,hnr x (rAS hx)⟩
       | _ =>
         simp only[PV.cells]at hx;cases j with
         | zero=>simp at hx; subst hx; exact⟨3,hnr⟩
         | succ j=>simp at hx
      obtain⟨n,hn⟩:=hnx;exact RV.nr_any n x v hn q2
     .obtain⟨y,hy,hxy⟩:=(zER h).2 i e he
      obtain⟨_,_,c3⟩:=zMU hxy (hany _ (rAS he));obtain⟨m',y',hy',hr'⟩:=c3 j x hx;obtain⟨v,q1,q2,q3⟩:=f5 i y hy j y' hy';exact⟨v,q1,RV.rn hk' m' x y' v hr' q2,q3⟩
  .obtain⟨p1,_,bp,p2,_,_⟩:=hH _ (zDY hr)
   obtain⟨q1,_,bq,q2,_,_⟩:=hH _ (zDY hr');rw[hk' r p1]at h1;rw[hk' r' q1]at h2;exact H0.excl _ _ bp bq m m' _ _ _ _ (hinj _ (zDY hr) _ (zDY hr') hne) p2 q2 h1 h2 hc hc'
 .cases hb:hl H r with
  | none=>exact hb
  | some b=>have:=(hH _ (zDY hb)).1; have h2:k<=r:=hr; simp only at this; omega
 .have h2:k<=r:=hr
  show Z.contains r=false
  refine contains_false.2 fun hm=>?_
  have:=hZ r hm;omega
 .show RV w A κ' (sl L i) _
  rcases uFM (l:=L) (i:=i) with h | h
  .rw[h]; exact .any _
  .exact RV.rn hk' 3 _ _ _ (hL _ h) (hR.tm i hi)
def uNS(r:Res)(F:PV->Hp->List Nat->List Nat->Prop):Prop :=
 match r with
 | some (v,h,rd,wr)=>F v h rd wr
 | none=>False
def uKA{α:Type}(o:Option α)(F:α->Prop):Prop :=
 match o with
 | some v=>F v
 | none=>False
section
variable {P:Program} {G:Gl} {C:vA8} {I:vB1} {D:Bool} {K:FP->St->Prop} {s:St} {d:Option Nat} {ty':TypeId} {pos:String} {after:Array Edge} {g:Option (Nat×Bool)}
def uQX(K:FP->St->Prop)(s:St)(d:Option Nat):PV->Hp->List Nat->List Nat->Prop:=fun v h rd wr=>K ⟨rd,wr,[]⟩ (put { s with h:=h,nx:=s.nx+1 } d v)
section
variable {i:TI} {k:IntKind} {a b:Int} {h:Hp}
end
def bnd(dflt:Int):Option PV->Option Int
 | none=>some dflt
 | some (.int _ n)=>some n
 | some _=>none
theorem zIQ{n:Int}:bnd n none=some n:=rfl
end
section
variable {P:Program} {G:Gl} {C:vA8} {I:vB1} {Le:LeT} {D:Bool} {s:St}
def guarded(v:PV)(want:Bool)(run pass:Prop):Prop:=match v with
 | .bool b=>(b=want->run)/\(b=(!want)->pass)
 | .tup []=>pass
 | _=>False
def wpF(P:Program)(G:Gl)(C:vA8)(I:vB1)(ds:List (Option Nat)):List Oper->(St->Prop)->St->Prop
 | [],K,s=>K s
 | o :: rest,K,s =>
   match o.guard with
   | none=>vE9 P G C I false o (fun _ s'=>wpF P G C I ds rest K s') s
   | some (j,want)=>match (ds[j]?).bind id with
     | some d=>guarded (s.t d) want (vE9 P G C I false o (fun _ s'=>wpF P G C I ds rest K s') s) (wpF P G C I ds rest K (put { s with nx:=s.nx+1 } o.dst (.tup [])))
     | none=>False
theorem zPF{o:Oper}{K K':FP->St->Prop}(h:∀ fp s,K fp s=K' fp s):vE9 P G C I D o K s=vE9 P G C I D o K' s:=by
 have:K=K':=funext fun fp=>funext fun s=>h fp s
 rw[this]
theorem vYI{ops:List Oper}{j:Nat}:(ops[j]?).bind (·.dst)=((ops.map (·.dst))[j]?).bind id:=by
 rw[rBP];cases ops[j]?<;>rfl
theorem vGF{ops:List Oper}{K:St->Prop}:∀ (l:List Oper) (i:Nat) (acc:List (Nat×FP)) (s:St),wpOps P G C I false ops i acc l K s=wpF P G C I (ops.map (·.dst)) l K s
 | [],_,_,_=>rfl
 | o :: rest,i,acc,s=>by
   have e:vE9 P G C I false o (fun fp s'=>((false:Bool)=true->vCC ops o fp acc=true)/\wpOps P G C I false ops (i+1) ((i,fp)::acc) rest K s') s=vE9 P G C I false o (fun _ s'=>wpF P G C I (ops.map (·.dst)) rest K s') s :=
    zPF fun fp s'=>by rw[vGF rest]; simp
   unfold wpOps wpF;dsimp only;cases o.guard with
   | none=>exact e
   | some jw =>
     obtain⟨j,want⟩:=jw;dsimp only;rw[vYI,e,vGF rest];cases ((ops.map (·.dst))[j]?).bind id with
     | none=>rfl
     | some d =>
       dsimp only[guarded];cases s.t d with
       | tup vs=>cases vs<;>rfl
       | _=>rfl
def FP.none:FP->Bool
 | ⟨[],[],[]⟩=>true
 | _=>false
def vLE(i:Nat)(fp:FP)(acc:List (Nat×FP)):List (Nat×FP):=if fp.none then acc else(i,fp)::acc
def wpT(P:Program)(G:Gl)(C:vA8)(I:vB1)(os:List Oper):Nat->List (Nat×FP)->List Oper->(St->Prop)->St->Prop
 | _,_,[],K,s=>K s
 | i,acc,o::rest,K,s =>
   match o.guard with
   | none=>vE9 P G C I true o (fun fp s'=>vCC os o fp acc=true/\wpT P G C I os (i+1) (vLE i fp acc) rest K s') s
   | some (j,want)=>match (os[j]?).bind (·.dst) with
     | some d=>guarded (s.t d) want (vE9 P G C I true o (fun fp s'=>vCC os o fp acc=true/\wpT P G C I os (i+1) (vLE i fp acc) rest K s') s) (wpT P G C I os (i+1) acc rest K (put { s with nx:=s.nx+1 } o.dst (.tup [])))
     | none=>False
theorem vTD{f fp:FP}(h:f.none=true):FP.apart f fp=true:=by
 obtain⟨a,b,c⟩:=f;cases a<;>cases b<;>cases c<;>simp[FP.none]at h
 simp[FP.apart]
theorem zE0{os:List Oper}{o:Oper}{fp f:FP}{k:Nat}{acc:List (Nat×FP)}:vCC os o fp ((k,f)::acc)=((vCZ os 4 o k || FP.apart f fp) && vCC os o fp acc):=rfl
theorem vLI{ops:List Oper}{K:St->Prop}:∀ (l:List Oper) (i:Nat) (acc acc':List (Nat×FP)) (s:St),(∀ o fp,vCC ops o fp acc=vCC ops o fp acc')->wpOps P G C I true ops i acc l K s=wpT P G C I ops i acc' l K s
 | [],_,_,_,_,_=>rfl
 | o :: rest,i,acc,acc',s,ha=>by
   have ha':∀ fp (o:Oper) (fp':FP),vCC ops o fp' ((i,fp)::acc)=vCC ops o fp' (vLE i fp acc'):=fun fp o fp'=>by
    unfold vLE
    split
    .rename_i h; rw[zE0,vTD h,rDE,rDP,ha]
    .rw[zE0,zE0,ha]
   have e:vE9 P G C I true o (fun fp s'=>((true:Bool)=true->vCC ops o fp acc=true)/\wpOps P G C I true ops (i+1) ((i,fp)::acc) rest K s') s=vE9 P G C I true o (fun fp s'=>vCC ops o fp acc'=true/\wpT P G C I ops (i+1) (vLE i fp acc') rest K s') s :=
    zPF fun fp s'=>by rw[vLI rest (i+1) _ _ s' (ha' fp),ha]; simp
   unfold wpOps wpT;dsimp only;cases o.guard with
   | none=>exact e
   | some jw =>
     obtain⟨j,want⟩:=jw;dsimp only;rw[e,vLI rest (i+1) acc acc' _ ha];cases (ops[j]?).bind (·.dst) with
     | none=>rfl
     | some d =>
       dsimp only[guarded];cases s.t d with
       | tup vs=>cases vs<;>rfl
       | _=>rfl
theorem uAU{id:Nat}{ops:List Oper}{Q:Exit->St->Prop}:wp P G C I Le (.region id ops.toArray false) Q s=wpF P G C I (ops.map (·.dst)) ops (Q .normal) s:=vGF _ _ _ _
theorem uAT{id:Nat}{ops:List Oper}{Q:Exit->St->Prop}(hc:vDJ true ops=true):wp P G C I Le (.region id ops.toArray true) Q s=wpT P G C I ops 0 [] ops (Q .normal) s:=by
 show wpOps P G C I (vDJ true ops) ops 0 [] ops (Q .normal) s=_
 rw[hc]; exact vLI _ _ _ _ _ fun _ _=>rfl
theorem uAV{id:Nat}{ops:List Oper}{Q:Exit->St->Prop}(hc:vDJ true ops=false):wp P G C I Le (.region id ops.toArray true) Q s=wpF P G C I (ops.map (·.dst)) ops (Q .normal) s:=by
 show wpOps P G C I (vDJ true ops) ops 0 [] ops (Q .normal) s=_
 rw[hc]; exact vGF _ _ _ _
section
variable {ds:List (Option Nat)} {d:Option Nat} {op:Op} {ty:TypeId} {pos:String} {after:Array Edge} {rest:List Oper} {K:St->Prop} {i j:Nat} {acc:List (Nat×FP)} {want:Bool}
end
def uQZ(C:vA8)(I:vB1)(D:Bool)(g:PV)(args:List PV)(d:Option Nat)(K:FP->St->Prop)(s:St):Prop:=match g with
 | .func (.func f) first captured=>vFA C I D f (first++args++captured) d K s
 | .func (.yield l) [] []=>vLG C l args d K s
 | _=>False
theorem uD6{z:Fz}:vCG z []=z:=by funext r; simp[vCG]
theorem vZA{f:FuncId}{args ds:List PV}{ks:List Nat}{v:PV}{d:Option Nat}{K:FP->St->Prop}(hC:C f ds (.data v))(hf:vB7 (frz s.h 6) args=some (ds,ks))(hk:K ⟨ks,[],ks⟩ (put { s with z:=vCG s.z ks,nx:=s.nx+1 } d v)) :
 vFA C I D f args d K s:=rAW ⟨6,ds,ks,.data v,hf,hC,rGU,hk⟩
theorem vS4{f:FuncId}{args ds:List PV}{ks:List Nat}{els:List PV}{sz:Nat}{agg:Bool}{d:Option Nat}{K:FP->St->Prop}(hC:C f ds (.fresh els sz agg))(hf:vB7 (frz s.h 6) args=some (ds,ks))
 (hk:K ⟨ks,[s.nx],ks⟩ (put { s with h:=hset s.h s.nx (some ⟨els,sz,agg⟩),z:=vCG s.z ks,nx:=s.nx+1 } d (.own s.nx 0 els.length))) :
 vFA C I D f args d K s:=rAW ⟨6,ds,ks,.fresh els sz agg,hf,hC,rGU,hk⟩
theorem uEO{f:FuncId}{args:List PV}{d:Option Nat}{K:FP->St->Prop}(h:I f args (fun v s'=>K ⟨[],[],[]⟩ (put { s' with t:=s.t } d v)) s):vFA C I false f args d K s:=rA0 (rAW ⟨rfl,h⟩)
theorem zD7{α:Type}{h:Hp}{n:Nat}{f:α->PV}(he:∀ x,frz h n (f x)=some (f x,[])):∀ l:List α,vB7 (frz h n) (l.map f)=some (l.map f,[])
 | []=>rfl
 | x::l=>by
   simp only[rBM,vB7,he,zD7 he l,rBQ]
def uNU(v:PV)(x y:Prop):Prop:=match v with
 | .bool t=>(t=true->x)/\(t=false->y)
 | .anyb=>x/\y
 | _=>False
def gives(h:Hp)(v d:PV):Prop:=∃ ks,frz h 4 v=some (d,ks)
@[congr] theorem uLQ {K:FP->St->Prop} {s s':St} {d:Option Nat} {v v':PV} {h h':Hp} {rd rd' wr wr':List Nat} (e1:∀ _:Unit,s=s') (e2:∀ _:Unit,v=v') (e3:∀ _:Unit,h=h') (e4:∀ _:Unit,rd=rd') (e5:∀ _:Unit,wr=wr'):uQX K s d v h rd wr=uQX K s' d v' h' rd' wr':=by rw[e1 (),e2 (),e3 (),e4 (),e5 ()]
@[congr] theorem uJ8 {r r':Res} {F:PV->Hp->List Nat->List Nat->Prop} (e:∀ _:Unit,r=r'):uNS r F=uNS r' F:=by rw[e ()]
@[congr] theorem uJ9 {α:Type} {o o':Option α} {F:α->Prop} (e:∀ _:Unit,o=o'):uKA o F=uKA o' F:=by rw[e ()]
@[congr] theorem uD4 {v v':PV} {w:Bool} {a b:Prop} (e:∀ _:Unit,v=v'):guarded v w a b=guarded v' w a b:=by rw[e ()]
@[congr] theorem uKG {v v':PV} {a b:Prop} (e:∀ _:Unit,v=v'):uNU v a b=uNU v' a b:=by rw[e ()]
@[congr] theorem uLR {g g':PV} {args args':List PV} {d:Option Nat} {K:FP->St->Prop} {s s':St} (e1:∀ _:Unit,g=g') (e2:∀ _:Unit,args=args') (e3:∀ _:Unit,s=s'):uQZ C I D g args d K s=uQZ C I D g' args' d K s':=by rw[e1 (),e2 (),e3 ()]
@[congr] theorem uGM {f:FuncId} {args args':List PV} {d:Option Nat} {K:FP->St->Prop} {s s':St} (e2:∀ _:Unit,args=args') (e3:∀ _:Unit,s=s'):vFA C I D f args d K s=vFA C I D f args' d K s':=by rw[e2 (),e3 ()]
@[congr] theorem uFG {c:Code} {Q:Exit->St->Prop} {s s':St} (e:∀ _:Unit,s=s'):vIO P G C I Le c Q s=vIO P G C I Le c Q s':=by rw[e ()]
end
section
variable {P:Program} {G:Gl} {n0:Nat}
theorem uNQ(hm:P.follows .mixedOrders=true){f:FuncId}{fn:Func}{c:Code}{rs:List ResultVar}{nt:Nat}(ok:FnOk P f fn c rs nt){ds:List PV}(hl:ds.length<=nt){d:PV}
 (h:wp P G (FnC P G) (FnH P G) (LeS G,0) c (vF1 P rs fun v s=>gives s.h v d) (start ds)):FnC P G f ds (.data d):=uAM hm ok hl h
def vHY(els:List PV)(sz:Nat)(agg:Bool)(v:PV)(s:St):Prop :=
 (v=.nilsl/\els=[])\/∃ r b ks,v=.own r 0 els.length/\s.h r=some b/\b.sz=sz/\b.agg=agg/\b.els.length=els.length/\s.z r=false/\vB7 (frz s.h 4) b.els=some (els,ks)/\ks.contains r=false
theorem uJ4(hm:P.follows .mixedOrders=true){f:FuncId}{fn:Func}{c:Code}{rs:List ResultVar}{nt:Nat}(ok:FnOk P f fn c rs nt){ds:List PV}(hl:ds.length<=nt){els:List PV}{sz:Nat}{agg:Bool}
 (h:wp P G (FnC P G) (FnH P G) (LeS G,0) c (vF1 P rs (vHY els sz agg)) (start ds)):FnC P G f ds (.fresh els sz agg):=zOU hm ok hl h
theorem vM7{els:List PV}{sz:Nat}{agg:Bool}{r len:Nat}{s:St}(hl:len=els.length)(hb:s.h r=some ⟨els,sz,agg⟩)(hz:s.z r=false)(hf:vB7 (frz s.h 4) els=some (els,[])):vHY els sz agg (.own r 0 len) s:=by
 subst hl;exact rA0 ⟨r,_,[],rfl,hb,rfl,rfl,rfl,hz,hf,rfl⟩
def okS(ρ:Nat->Nat)(k:Nat):List (Nat×PV)->Tm->Prop
 | [],_=>True
 | (j,v)::l,t=>rn ρ k 3 v (t j)/\okS ρ k l t
def okH(ρ:Nat->Nat)(k:Nat)(Z:List Nat):List (Nat×Blk)->Hp->Fz->Prop
 | [],_,_=>True
 | (r,b)::l,h,z=>(r<k/\(∀ e∈b.els,e≠.any)/\(uKA (h (ρ r)) fun b'=>rnB ρ k b b')/\Z.contains r=z (ρ r))/\okH ρ k Z l h z
theorem vMZ{ρ:Nat->Nat}{k:Nat}{t:Tm}:∀ {l:List (Nat×PV)},okS ρ k l t->∀ p∈l,rn ρ k 3 p.2 (t p.1)
 | [],_,p,hp=>by cases hp
 | (j,v)::l,h,p,hp=>by
   rcases rBA.1 hp with rfl | hp
   .exact h.1
   .exact vMZ h.2 p hp
theorem vHH{ρ:Nat->Nat}{k:Nat}{Z:List Nat}{h:Hp}{z:Fz}:∀ {l:List (Nat×Blk)},okH ρ k Z l h z->∀ q∈l,q.1<k/\(∀ e∈q.2.els,e≠.any)/\∃ b,h (ρ q.1)=some b/\rnB ρ k q.2 b/\zl Z q.1=z (ρ q.1)
 | [],_,q,hq=>by cases hq
 | (r,b)::l,hh,q,hq=>by
   rcases rBA.1 hq with rfl | hq
   .obtain⟨⟨h1,h2,h3,h4⟩,_⟩:=hh
    refine⟨h1,h2,?_⟩;cases hb:h (ρ r) with
    | none=>rw[hb]at h3; exact h3.elim
    | some b'=>rw[hb]at h3; exact⟨b',rfl,h3,h4⟩
   .exact vHH hh.2 q hq
def ren(n0:Nat)(l:List Nat)(r:Nat):Nat:=if r<n0 then r else l.getD (r - n0) r
theorem vLF{s:St}{L:List (Nat×PV)}{k:Nat}(h0:n0<=k)(hL:okS id k L s.t):LeS G n0 s { t:=sl L,h:=hl [],z:=zl [],nx:=k } :=
 uG0 id h0 (fun _ _=>rfl) (vMZ hL) (fun q hq=>by cases hq) (fun r hr=>by cases hr) (fun p hp=>by cases hp)
theorem vIK{s:St}{L:List (Nat×PV)}{H:List (Nat×Blk)}{Z:List Nat}{k:Nat}(ρ:List Nat)(h0:n0<=k)(hL:okS (ren n0 ρ) k L s.t)(hH:okH (ren n0 ρ) k Z H s.h s.z)(hZ:∀ r∈Z,r<k)
 (hinj:(H.map fun q=>ren n0 ρ q.1).Pairwise (·≠·)):LeS G n0 s { t:=sl L,h:=hl H,z:=zl Z,nx:=k }:=by
 refine uG0 (ren n0 ρ) h0 (fun r hr=>by simp[ren,hr]) (vMZ hL) (vHH hH) hZ (fun p hp q hq hne=>?_);clear hH
 induction H with
 | nil=>cases hp
 | cons x H ih =>
   rw[rBM,rFM]at hinj;rcases rBA.1 hp with e1 | hp'
   .rcases rBA.1 hq with e2 | hq'
    .rw[e1,e2]at hne; exact absurd rfl hne
    .rw[e1]; exact hinj.1 _ (rA5.2 ⟨q,hq',rfl⟩)
   .rcases rBA.1 hq with e2 | hq'
    .rw[e2]; exact(hinj.1 _ (rA5.2 ⟨p,hp',rfl⟩)).symm
    .exact ih hinj.2 hp' hq'
theorem zHU{C:vA8}{c:Code}{Q:Exit->St->Prop}{s:St}{ι:Type}(L:ι->List (Nat×PV))(H:ι->List (Nat×Blk))(Z:ι->List Nat)(k:Nat)(Inv:ι->Prop)(μ:ι->Nat)(i0:ι)(h0:Inv i0)
 (hs:LeS G n0 s { t:=sl (L i0),h:=hl (H i0),z:=zl (Z i0),nx:=k })
 (round:∀ i,Inv i->wp P G C (FnH P G) (LeS G,n0) c (vDS (fun s'=>∃ i',Inv i'/\μ i'<μ i/\LeS G n0 s' { t:=sl (L i'),h:=hl (H i'),z:=zl (Z i'),nx:=k }) Q) { t:=sl (L i),h:=hl (H i),z:=zl (Z i),nx:=k }) :
 vIO P G C (FnH P G) (LeS G,n0) c Q s :=
 wp_loop FnH.mono (fun i=>{ t:=sl (L i),h:=hl (H i),z:=zl (Z i),nx:=k }) Inv μ i0 h0 hs round
theorem vSS{C:vA8}{c:Code}{Q:Exit->St->Prop}{s:St}{ι:Type}(L:ι->List (Nat×PV))(Inv:ι->Prop)(μ:ι->Nat)(i0:ι)(h0:Inv i0)
 (hs:okS id n0 (L i0) s.t)
 (round:∀ i,Inv i->wp P G C (FnH P G) (LeS G,n0) c (vDS (fun s'=>∃ i',(Inv i'/\μ i'<μ i)/\okS id n0 (L i') s'.t) Q) { t:=sl (L i),h:=hl [],z:=zl [],nx:=n0 }) :
 vIO P G C (FnH P G) (LeS G,n0) c Q s :=
 zHU L (fun _=>[]) (fun _=>[]) n0 Inv μ i0 h0 (vLF (rAR _) hs) fun i hi=>wp_mono FnH.mono c _ _ _ (fun e s' h=>by
  cases e<;>first | (obtain⟨i',⟨h1,h2⟩,h3⟩:=h; exact⟨i',h1,h2,vLF (rAR _) h3⟩) | exact h) (round i hi)
end
section
variable {ρ:Nat->Nat} {nx n:Nat} {v:PV}
theorem uMD{k:IntKind}{m:Int}:rn ρ nx n (.int k m) v=(v=.int k m):=by cases n<;>rfl
theorem uHQ{b:Bool}:rn ρ nx n (.bool b) v=(v=.bool b):=by cases n<;>rfl
theorem vU7{es:List PV}:rn ρ nx n (.imm es) v=(v=.imm es):=by cases n<;>rfl
theorem vOH:rn ρ nx n .nilsl v=(v=.nilsl):=by cases n<;>rfl
theorem vL3{e:PV}{o:Nat}:rn ρ nx n (.cptr e o) v=(v=.cptr e o):=by cases n<;>rfl
theorem uFP{u:Value}:rn ρ nx n (.raw u) v=(v=.raw u):=by cases n<;>rfl
theorem zDW{r off len:Nat}:rn ρ nx n (.own r off len) v=(r<nx/\v=.own (ρ r) off len):=by cases n<;>rfl
theorem uMC{r i off:Nat}:rn ρ nx n (.ptr r i off) v=(r<nx/\v=.ptr (ρ r) i off):=by cases n<;>rfl
theorem uFQ{cs cs':List PV}:rn ρ nx (n+1) (.agg cs) (.agg cs')=rnL (rn ρ nx n) cs cs':=rfl
theorem vL2{fn fn':Fn}{f f' c c':List PV}:rn ρ nx (n+1) (.func fn f c) (.func fn' f' c')=(fn=fn'/\rnL (rn ρ nx n) f f'/\rnL (rn ρ nx n) c c'):=rfl
theorem uHR{f:PV->PV->Prop}:rnL f [] []=True:=rfl
theorem uBP{f:PV->PV->Prop}{a b:PV}{as bs:List PV}:rnL f (a::as) (b::bs)=(f a b/\rnL f as bs):=rfl
end
theorem uO4{n:Int}(h1:-9223372036854775808<=n)(h2:n<9223372036854775808):IntKind.i64.wrap n=n:=by
 rw[IntKind.wrap_i64]; omega
theorem uO3{n:Int}(h1:0<=n)(h2:n<18446744073709551616):IntKind.u64.wrap n=n:=by
 rw[IntKind.wrap_u64]; omega
theorem uO2{n:Int}(h1:0<=n)(h2:n<4294967296):IntKind.u32.wrap n=n:=by
 rw[IntKind.wrap_u32]; omega
theorem rAA{p:Prop}(h:p:=by simp[ren]):p:=h
end Go.PI
