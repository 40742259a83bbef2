/-
  What is accepted is accepted without the lemmas that nothing uses. No program in sight.
-/
import Derived.Test.YtbelmkceegmdjaaGreatDoorKPD
import Derived.Laws.IdiomRangeMap
set_option linter.unusedVariables false
set_option linter.unusedSimpArgs false
set_option linter.unnecessarySimpa false
set_option maxHeartbeats 0
namespace Go.PI
open Go.RowKit
abbrev Mp:=List (Nat×Obj)
structure MX(E0:Env)(T:Nat->Prop)(μ:Mp)(E:Env):Prop where
 obj:∀ p∈μ,E.Wr p.1/\E.ws.heap[p.1]?=some p.2/\vEH p.2=true
 s:∀ b,E0.S b->E.S b
 wr:∀ b,E0.Wr b->E.Wr b
 keep:∀ b,E0.S b->¬ T b->E.ws.heap[b]?=E0.ws.heap[b]?
 bel:Below 0 E0.ws E.ws
 w0:E.w0=E0.w0
 gi:E.gi=E0.gi
 w0S:∀ b,E0.Wr b->E0.S b
structure MG(F E0:Env)(T:Nat->Prop)(μ:Mp):Prop where
 out:∀ p∈μ,¬ F.K p.1/\F.B<=p.1/\(E0.S p.1->T p.1)
 nd:(μ.map (·.1)).Nodup
section
variable {P:Program} {G:Gl} {E:Env} {w:World} {A:Nat->Prop} {κ:Ka} {h:Hp} {z:Fz}
theorem uNA(E0:Env)(T:Nat->Prop)(μ:Mp):XOk P G (FnC P G) (MX E0 T μ) :=
 ⟨fun E F h _=>⟨h.obj,h.s,h.wr,h.keep,h.bel,h.w0,h.gi,h.w0S⟩,fun f ds r _ h=>h,fun f ds i j b h=>h.2.elim,fun l ds i j b h=>h.2.elim⟩
theorem HR.objPut(H:HR E G w A κ h z){m:Nat}{o:Obj}(o':Obj)(hw:E.Wr m)(hK:¬ E.K m)(hB:E.B<=m)(hm:w.heap[m]?=some o)(ho:vEH o=true)(hd:o≠.deferred (some [])) :
 HR { E with ws:=w.putObj m o' } G (w.putObj m o') A κ h z/\(∀ b o,A b->(w.putObj m o').cell? ⟨b,o,none⟩=w.cell? ⟨b,o,none⟩):=by
 obtain⟨hS,hA⟩:=H.kp.wr m hw;have oth:∀ b,b≠m->(w.putObj m o').heap[b]?=w.heap[b]?:=fun b hb=>World.putObj_heap_other hb
 have hcell:∀ b o,A b->(w.putObj m o').cell? ⟨b,o,none⟩=w.cell? ⟨b,o,none⟩:=fun b o hb=>cell?_of_heap (oth b (fun e=>by subst e; exact hA hb)) o
 have mono:∀ {d v},RV w A κ d v->RV (w.putObj m o') A κ d v:=fun hv=>hv.mono (fun _ h=>h) hcell (fun _ _ h=>h)
 refine⟨⟨H.bel.trans ⟨rfl,rfl,rfl,zsm,fun k hk=>oth k zom⟩,by simp[H.hB],fun b hb=>by simp; exact H.alt b hb,H.a0,H.a1,fun b o hb=>(hcell b o (H.a0 b hb)).trans (H.acell b o hb),H.k0,fun g e hg=>mono (H.glob g e hg),fun r m sz cap hr=>by simpa using H.klt r m sz cap hr,
  ⟨Below.refl _ _,fun b hb=>⟨by simp; exact(H.kp.keep b hb).1,rfl⟩,H.kp.wr,H.kp.own,
    fun D hD=>⟨(H.kp.mks D hD).1,(H.kp.mks D hD).2.1,(oth D (fun e=>(H.kp.mks D hD).2.1.1 (e ▸ hS))).trans (H.kp.mks D hD).2.2⟩,H.kp.nd,
    H.kp.kb.trans ⟨rfl,rfl,rfl,zsm,fun k hk=>by omega⟩,fun b hb=>⟨by simp; exact(H.kp.kk b hb).1,(oth b (fun e=>hK (e ▸ hb))).trans (H.kp.kk b hb).2.1,(H.kp.kk b hb).2.2⟩,H.kp.zk,H.kp.mk0,H.kp.gk⟩,fun r b hb hκ=>?_,H.excl⟩,hcell⟩
 obtain⟨m',cap,h1,h2,h3,h4⟩:=H.blk r b hb hκ;refine⟨m',cap,h1,h2,h3,?_⟩;rcases h4 with h4 | ⟨c,ty,g1,g2,g3,g4,g5,g6,g7⟩
 .exact rAW h4
 .exact rA0 ⟨c,ty,g1,(oth m' (fun e=>by rw[e,hm]at g2; cases g2; cases ho)).trans g2,g3,g4,fun i e he=>(g5 i e he).mono (fun _ h=>h) hcell (fun _ _ h=>h),g6,g7⟩
theorem HR.objNew(H:HR E G w A κ h z)(o:Obj) :
 HR { E with S:=fun b=>E.S b\/b=w.heap.size,Wr:=fun b=>E.Wr b\/b=w.heap.size,ws:=w.alloc o } G (w.alloc o) A κ h z/\(∀ b o',A b->(w.alloc o).cell? ⟨b,o',none⟩=w.cell? ⟨b,o',none⟩):=by
 have old:∀ b,b<w.heap.size->(w.alloc o).heap[b]?=w.heap[b]?:=fun b hb=>heap_alloc_old w o hb
 have hcell:∀ b o',A b->(w.alloc o).cell? ⟨b,o',none⟩=w.cell? ⟨b,o',none⟩:=fun b o' hb=>cell?_of_heap (old b (H.alt b hb)) o'
 have mono:∀ {d v},RV w A κ d v->RV (w.alloc o) A κ d v:=fun hv=>hv.mono (fun _ h=>h) hcell (fun _ _ h=>h)
 have hsz:(w.alloc o).heap.size=w.heap.size+1:=by simp
 refine⟨⟨H.bel.alloc H.hB _,by rw[hsz]; exact rC2 H.hB,fun b hb=>by rw[hsz]; exact rEI (H.alt b hb),H.a0,H.a1,fun b o hb=>(hcell b o (H.a0 b hb)).trans (H.acell b o hb),H.k0,fun g e hg=>mono (H.glob g e hg),fun r m sz cap hr=>?_,
  ⟨Below.refl _ _,fun b hb=>⟨?_,rfl⟩,fun b hb=>?_,fun r b m sz cap hb hk hc hz=>⟨fun hS=>?_,(H.kp.own r b m sz cap hb hk hc hz).2⟩,
    fun D hD=>⟨(H.kp.mks D hD).1,⟨fun hS=>?_,(H.kp.mks D hD).2.1.2⟩,(old D (rA6.1 (H.kp.mks D hD).2.2).1).trans (H.kp.mks D hD).2.2⟩,H.kp.nd,
    H.kp.kb.trans ⟨rfl,rfl,rfl,by rw[hsz]; exact rC3 _,fun k hk=>by omega⟩,fun b hb=>⟨by rw[hsz]; exact rEI (H.kp.kk b hb).1,(old b (H.kp.kk b hb).1).trans (H.kp.kk b hb).2.1,fun hw=>?_⟩,fun b hb=>⟨(H.kp.zk b hb).1,(H.kp.zk b hb).2.1,fun hS=>?_⟩,H.kp.mk0,H.kp.gk⟩,fun r b hb hκ=>?_,H.excl⟩,hcell⟩
 .rw[hsz]; rcases H.klt r m sz cap hr with h | h
  .exact rAW h
  .exact rA0 (rEI h)
 .rw[hsz]; rcases hb with hb | hb
  .exact rEI (H.kp.keep b hb).1
  .omega
 .rcases hb with hb | hb
  .exact⟨rAW (H.kp.wr b hb).1,(H.kp.wr b hb).2⟩
  .exact⟨rA0 hb,fun hA=>by have:=H.alt b hA; omega⟩
 .rcases hS with hS | hS
  .exact(H.kp.own r b m sz cap hb hk hc hz).1 hS
  .rcases H.klt r m sz cap hk with h | h
   .exact hc h
   .omega
 .rcases hS with hS | hS
  .exact(H.kp.mks D hD).2.1.1 hS
  .have:=(rA6.1 (H.kp.mks D hD).2.2).1
   omega
 .rcases hw with hw | hw
  .exact(H.kp.kk b hb).2.2 hw
  .have:=(H.kp.kk b hb).1; omega
 .rcases hS with hS | hS
  .exact(H.kp.zk b hb).2.2 hS
  .have:=(H.kp.kk b (H.kp.zk b hb).1).1; omega
 .obtain⟨m',cap,h1,h2,h3,h4⟩:=H.blk r b hb hκ
  refine⟨m',cap,h1,h2,h3,?_⟩;rcases h4 with h4 | ⟨c,ty,g1,g2,g3,g4,g5,g6,g7⟩
  .exact rAW h4
  .exact rA0 ⟨c,ty,g1,(old m' (rA6.1 g2).1).trans g2,g3,g4,fun i e he=>(g5 i e he).mono (fun _ h=>h) hcell (fun _ _ h=>h),g6,g7⟩
theorem HR.forget{E0:Env}{T:Nat->Prop}{μ:Mp}(X:MX E0 T μ E)(hre:E.re E0=E)(hM:E.M=E0.M)(hT:∀ b,E0.S b->¬ T b)(H:HR E G w A κ h z):HR E0 G w A κ h z:=by
 have e:E={ E0 with S:=E.S,Wr:=E.Wr,ws:=E.ws }:=by
  have h1:=X.w0; have h2:=X.gi; have h3:=hM;rw[<- hre];simp only[Env.re];rw[h1,h2,h3]
 obtain⟨S,Wr,ws,e⟩:∃ S Wr ws,E={ E0 with S:=S,Wr:=Wr,ws:=ws }:=⟨_,_,_,e⟩;subst e
 exact⟨H.bel,H.hB,H.alt,H.a0,H.a1,H.acell,H.k0,H.glob,H.klt,⟨X.bel.trans H.kp.base,fun b hb=>⟨(H.kp.keep b (X.s b hb)).1,(H.kp.keep b (X.s b hb)).2.trans (X.keep b hb (hT b hb))⟩,fun b hb=>⟨X.w0S b hb,(H.kp.wr b (X.wr b hb)).2⟩,
  fun r b m sz cap hb hk hc hz=>⟨fun hS=>(H.kp.own r b m sz cap hb hk hc hz).1 (X.s m hS),(H.kp.own r b m sz cap hb hk hc hz).2⟩,fun D hD=>⟨(H.kp.mks D hD).1,⟨fun hS=>(H.kp.mks D hD).2.1.1 (X.s D hS),(H.kp.mks D hD).2.1.2⟩,(H.kp.mks D hD).2.2⟩,H.kp.nd,H.kp.kb,
  fun b hb=>⟨(H.kp.kk b hb).1,(H.kp.kk b hb).2.1,fun hw=>(H.kp.kk b hb).2.2 (X.wr b hw)⟩,fun b hb=>⟨(H.kp.zk b hb).1,(H.kp.zk b hb).2.1,fun hS=>(H.kp.zk b hb).2.2 (X.s b hS)⟩,H.kp.mk0,H.kp.gk⟩,H.blk,H.excl⟩
def RelM(E0 F:Env)(T:Nat->Prop)(G:Gl)(N:Nat)(df:List Deferred)(s:St)(μ:Mp)(a:Act)(w:World)(A:Nat->Prop)(κ:Ka):Prop :=
 MG F E0 T μ/\vEP (MX E0 T μ) F G N df s a w A κ
end
def wpM(P:Program)(G:Gl)(N n0:Nat)(c:Code)(Q:Exit->St->Mp->Prop)(s:St)(μ:Mp):Prop :=
 ∀ (E0 F:Env) (T:Nat->Prop) (df:List Deferred) (a:Act) (w:World) (A:Nat->Prop) (κ:Ka),F.n0=n0->RelM E0 F T G N df s μ a w A κ ->
   c.wpIn (Wd none) 0 P (fun e a' w'=>∃ s' μ' A' κ',RelM E0 F T G N df s' μ' a' w' A' κ'/\Q e s' μ') a w
def uPC(G:Gl)(n0:Nat)(K:St->Mp->Prop)(Q:Exit->St->Mp->Prop):Exit->St->Mp->Prop
 | .normal,s,μ=>∃ s',LeS G n0 s s'/\K s' μ
 | e,s,μ=>Q e s μ
def vPV(id:Nat)(Q:Exit->St->Mp->Prop):Exit->St->Mp->Prop
 | .exit id',s,μ=>if id'=id then Q .normal s μ else Q (.exit id') s μ
 | e,s,μ=>Q e s μ
section
variable {P:Program} {G:Gl} {N n0:Nat} {Q:Exit->St->Mp->Prop} {s:St} {μ:Mp}
theorem RelM.le{E0 F:Env}{T:Nat->Prop}{df:List Deferred}{s s':St}{a:Act}{w:World}{A:Nat->Prop}{κ:Ka}(hn:F.n0=n0)(h:RelM E0 F T G N df s μ a w A κ)(hle:LeS G n0 s s'):∃ A' κ',RelM E0 F T G N df s' μ a w A' κ':=by
 obtain⟨g,E,hX,hF,hR⟩:=h;obtain⟨A',κ',hR'⟩:=hle E N df a w A κ ((zMP hF).trans hn) hR;exact⟨A',κ',g,E,hX,hF,hR'⟩
theorem vGG{c:Code}{Q':Exit->St->Mp->Prop}(hq:∀ e s μ,Q e s μ->Q' e s μ)(h:wpM P G N n0 c Q s μ):wpM P G N n0 c Q' s μ:=fun E0 F T df a w A κ hn hR =>
 wpIn_mono (h E0 F T df a w A κ hn hR) fun e a' w' ⟨s',μ',A',κ',h1,h2⟩=>⟨s',μ',A',κ',h1,hq _ _ _ h2⟩
theorem zO0(hm:P.follows .mixedOrders=true){c:Code}(hf:vBU N c=true)(h:wp P G (FnC P G) (FnH P G) (LeS G,n0) c (fun e s'=>Q e s' μ) s):wpM P G N n0 c Q s μ:=fun E0 F T df a w A κ hn hR =>
 wpIn_mono (zDC hm c _ (uNA E0 T μ) none 0 F n0 hn df (rA0 ⟨rfl,fun E M X=>⟨X.obj,X.s,X.wr,X.keep,X.bel,X.w0,X.gi,X.w0S⟩⟩) _ s a w A κ hf hR.2 h) fun e a' w' ⟨s',A',κ',h1,h2⟩=>⟨s',μ,A',κ',⟨hR.1,h1⟩,h2⟩
theorem zAW{x y:Code}(h:wpM P G N n0 x (uPC G n0 (wpM P G N n0 y Q) Q) s μ):wpM P G N n0 (.seq x y) Q s μ:=fun E0 F T df a w A κ hn hR=>by
 refine wpIn_seq (wpIn_mono (h E0 F T df a w A κ hn hR) fun e a' w' ⟨s',μ',A',κ',h1,h2⟩=>?_);cases e with
 | normal =>
   obtain⟨s0,hle,h2⟩:=h2;obtain⟨A1,κ1,hR1⟩:=h1.le hn hle;exact h2 E0 F T df a' w' A1 κ1 hn hR1
 | _=>exact⟨s',μ',A',κ',h1,h2⟩
theorem zJG{c:Operand}{x y:Code}{t:Bool}(hc:vB5 N c=true)(he:ev G s.t c=.bool t)(h1:t=true->wpM P G N n0 x Q s μ)(h2:t=false->wpM P G N n0 y Q s μ):wpM P G N n0 (.cond c x y) Q s μ:=fun E0 F T df a w A κ hn hR=>by
 have hv:RV w A κ (ev G s.t c) (a.eval c):=by obtain⟨_,E,hX,hF,hR⟩:=hR; exact zIL hR.hr hR.tm hc
 rw[he]at hv;exact wpIn_cond_split hv.bool_inv (fun e=>h1 e E0 F T df a w A κ hn hR) (fun e=>h2 e E0 F T df a w A κ hn hR)
theorem zCH{id:Nat}{c:Code}(h:wpM P G N n0 c (vPV id Q) s μ):wpM P G N n0 (.block id c) Q s μ:=fun E0 F T df a w A κ hn hR=>by
 refine wpIn_block (wpIn_mono (h E0 F T df a w A κ hn hR) fun e a' w' ⟨s',μ',A',κ',h1,h2⟩=>?_);cases e with
 | exit id' =>
   simp only[Exit.inBlock,vPV]at h2 ⊢
   split
   .rename_i e; rw[rAU e]at h2; exact⟨s',μ',A',κ',h1,h2⟩
   .rename_i e; rw[rAM e]at h2; exact⟨s',μ',A',κ',h1,h2⟩
 | _=>exact⟨s',μ',A',κ',h1,h2⟩
theorem zJF(h:Q .normal s μ):wpM P G N n0 .skip Q s μ:=fun E0 F T df a w A κ hn hR=>wpIn_skip ⟨s,μ,A,κ,hR,h⟩
theorem vTT{l:Nat}(h:Q .normal s μ):wpM P G N n0 (.label l) Q s μ:=fun E0 F T df a w A κ hn hR=>wpIn_label ⟨s,μ,A,κ,hR,h⟩
theorem uAZ{l:Nat}(h:Q (.goto l) s μ):wpM P G N n0 (.goto l) Q s μ:=fun E0 F T df a w A κ hn hR=>wpIn_goto ⟨s,μ,A,κ,hR,h⟩
theorem uAY{c:Code}{ι:Type}(S:ι->St)(M:ι->Mp)(Inv:ι->Prop)(me:ι->Nat)(i0:ι)(h0:Inv i0)(hs:LeS G n0 s (S i0))(hM:μ=M i0)
 (round:∀ i,Inv i->wpM P G N n0 c (fun e s' μ'=>match e with
   | .normal=>∃ i',Inv i'/\me i'<me i/\LeS G n0 s' (S i')/\μ'=M i'
   | e=>Q e s' μ') (S i) (M i)):wpM P G N n0 (.loop c) Q s μ:=fun E0 F T df a w A κ hn hR=>by
 subst hM;obtain⟨A0,κ0,hR0⟩:=hR.le hn hs;refine zIU (fun m a w=>∃ i A κ,Inv i/\me i<m/\RelM E0 F T G N df (S i) (M i) a w A κ) (fun m a w ⟨i,A,κ,hi,hlt,hR⟩=>?_) (fun a w ⟨i,A,κ,hi,hlt,hR⟩=>by omega) (me i0+1) a w ⟨i0,A0,κ0,h0,rAL _,hR0⟩;refine wpIn_mono (round i hi E0 F T df a w A κ hn hR) fun e a' w' ⟨s',μ',A',κ',h1,h2⟩=>?_
 cases e with
 | normal =>
   obtain⟨i',q1,q2,q3,q4⟩:=h2;subst q4;obtain⟨A1,κ1,hR1⟩:=h1.le hn q3;exact⟨i',A1,κ1,q1,zom,hR1⟩
 | _=>exact⟨s',μ',A',κ',h1,h2⟩
end
section
variable {P:Program} {G:Gl} {N n0:Nat} {s:St} {μ:Mp} {E0 F:Env} {T:Nat->Prop} {df:List Deferred} {a:Act} {w:World} {A:Nat->Prop} {κ:Ka}
theorem vMG{dst:Option Nat}{pv:PV}{v':Value}{w':World}(hs:a.tmps.size=N)(hd:∀ d,dst=some d->d<N)(hc:∀ b o,A b->w'.cell? ⟨b,o,none⟩=w.cell? ⟨b,o,none⟩)(ht:∀ i,i<N->RV w A κ (s.t i) (a.tmps.getD i undef))(hv:RV w' A κ pv v') :
 ∀ i,i<N->RV w' A κ ((put s dst pv).t i) ((a.put dst v').tmps.getD i undef):=by
 intro i hi;have:=zL9 (dst:=dst) hs hd (zK9 (fun _ h=>h) hc (fun _ _ h=>h) ht) hv i hi;cases dst<;>exact this
theorem RelM.new{dst:Option Nat}(hR:RelM E0 F T G N df s μ a w A κ)(hd:∀ d,dst=some d->d<N)(ob:Obj)(hob:vEH ob=true){pv:PV}{v':Value}(hv:RV (w.alloc ob) A κ pv v') :
 RelM E0 F T G N df (put s dst pv) ((w.heap.size,ob)::μ) (a.put dst v') (w.alloc ob) A κ:=by
 obtain⟨g,E,X,hF,hR⟩:=hR;obtain⟨H,hc⟩:=hR.hr.objNew ob
 obtain⟨eK,eZ,ekw,eB,eA0,ew1,eκ0,eM0,en0,egh⟩:E.K=F.K/\E.Z=F.Z/\E.kw=F.kw/\E.B=F.B/\E.A0=F.A0/\E.w1=F.w1/\E.κ0=F.κ0/\E.M0=F.M0/\E.n0=F.n0/\E.gh=F.gh:=by
  rw[<- hF]; exact⟨rfl,rfl,rfl,rfl,rfl,rfl,rfl,rfl,rfl,rfl⟩
 have lt:∀ b,E.S b->b<w.heap.size:=fun b hb=>(hR.hr.kp.keep b hb).1
 have ltp:∀ p∈μ,p.1<w.heap.size:=fun p hp=>lt _ (hR.hr.kp.wr _ (X.obj p hp).1).1
 have old:∀ b,b<w.heap.size->(w.alloc ob).heap[b]?=w.heap[b]?:=fun b hb=>heap_alloc_old w ob hb
 refine⟨⟨fun p hp=>?_,?_⟩,{ E with S:=fun b=>E.S b\/b=w.heap.size,Wr:=fun b=>E.Wr b\/b=w.heap.size,ws:=w.alloc ob },⟨fun p hp=>?_,fun b hb=>rAW (X.s b hb),fun b hb=>rAW (X.wr b hb),fun b hb hT=>?_,?_,X.w0,X.gi,X.w0S⟩,by rw[<- hF]; rfl,by cases dst<;>exact H,?_,?_,vMG hR.size hd hc hR.tm hv,zEI hR.size,zG0 (E:=E) hR.df⟩
 .rcases rBA.1 hp with rfl | hp
  .refine⟨fun hK=>?_,?_,fun hS=>?_⟩
   .rw[<- eK]at hK; exact rDN _ (hR.hr.kp.kk _ hK).1
   .rw[<- eB]; exact hR.hr.hB
   .exact absurd (lt _ (X.s _ hS)) (rDN _)
  .exact g.out p hp
 .rw[rBM,rEE]
  refine⟨fun hm=>?_,g.nd⟩;obtain⟨p,hp,e⟩:=rA5.1 hm;have:=ltp p hp;have e:p.1=w.heap.size:=e;omega
 .rcases rBA.1 hp with rfl | hp
  .exact⟨rA0 rfl,vLD w ob,hob⟩
  .exact⟨rAW (X.obj p hp).1,(old _ (ltp p hp)).trans ((hR.hr.kp.keep _ (hR.hr.kp.wr _ (X.obj p hp).1).1).2.trans (X.obj p hp).2.1),(X.obj p hp).2.2⟩
 .exact(old b (lt b (X.s b hb))).trans ((hR.hr.kp.keep b (X.s b hb)).2.trans (X.keep b hb hT))
 .exact(X.bel.trans hR.hr.kp.base).trans ⟨rfl,rfl,rfl,zsm,fun k hk=>by omega⟩
 .cases dst<;>exact hR.fresh
 .cases dst<;>exact hR.n0
theorem RelM.set{dst:Option Nat}{m:Nat}{ob ob':Obj}{μ1 μ2:Mp}(hR:RelM E0 F T G N df s (μ1++(m,ob)::μ2) a w A κ)(hd:∀ d,dst=some d->d<N)(hob:vEH ob'=true)(hdf:ob≠.deferred (some [])){pv:PV}{v':Value}(hv:RV (w.putObj m ob') A κ pv v') :
 RelM E0 F T G N df (put s dst pv) (μ1++(m,ob')::μ2) (a.put dst v') (w.putObj m ob') A κ:=by
 obtain⟨g,E,X,hF,hR⟩:=hR
 obtain⟨eK,eZ,ekw,eB,eA0,ew1,eκ0,eM0,en0,egh⟩:E.K=F.K/\E.Z=F.Z/\E.kw=F.kw/\E.B=F.B/\E.A0=F.A0/\E.w1=F.w1/\E.κ0=F.κ0/\E.M0=F.M0/\E.n0=F.n0/\E.gh=F.gh:=by
  rw[<- hF]; exact⟨rfl,rfl,rfl,rfl,rfl,rfl,rfl,rfl,rfl,rfl⟩
 have hmem:(m,ob)∈μ1++(m,ob)::μ2:=by simp
 obtain⟨x1,x2,x3⟩:=X.obj _ hmem;obtain⟨o1,o2,o3⟩:=g.out _ hmem;have hk:∀ b,E.S b->w.heap[b]?=E.ws.heap[b]?:=fun b hb=>(hR.hr.kp.keep b hb).2
 have hm:w.heap[m]?=some ob:=(hk m (hR.hr.kp.wr _ x1).1).trans x2;obtain⟨H,hc⟩:=hR.hr.objPut ob' x1 (by rw[eK]; exact o1) (by rw[eB]; exact o2) hm x3 hdf;have hmlt:m<w.heap.size:=(rA6.1 hm).1;have oth:∀ b,b≠m->(w.putObj m ob').heap[b]?=w.heap[b]?:=fun b hb=>World.putObj_heap_other hb
 have self:(w.putObj m ob').heap[m]?=some ob':=by simp[World.putObj,hmlt]
 have keys:(μ1++(m,ob')::μ2).map (·.1)=(μ1++(m,ob)::μ2).map (·.1):=by simp
 have nd:=g.nd;simp only[rBE,rBM,rFT,rEE]at nd
 have mem':∀ p∈μ1++(m,ob')::μ2,p=(m,ob')\/(p∈μ1++(m,ob)::μ2/\p.1≠m):=fun p hp=>by
  rcases rAX.1 hp with hp | hp
  .exact rA0 ⟨rB0 _ hp,fun e=>nd.2.2 p.1 (rA5.2 ⟨p,hp,rfl⟩) m zsm e⟩
  .rcases rBA.1 hp with rfl | hp
   .exact rAW rfl
   .exact rA0 ⟨rBV _ (rBC _ hp),fun e=>nd.2.1.1 (e ▸ rA5.2 ⟨p,hp,rfl⟩)⟩
 refine⟨⟨fun p hp=>?_,by rw[keys]; exact g.nd⟩,{ E with ws:=w.putObj m ob' },⟨fun p hp=>?_,X.s,X.wr,fun b hb hT=>?_,?_,X.w0,X.gi,X.w0S⟩,by rw[<- hF]; rfl,by cases dst<;>exact H,?_,?_,vMG hR.size hd hc hR.tm hv,zEI hR.size,zG0 (E:=E) hR.df⟩
 .rcases mem' p hp with rfl | ⟨hp,_⟩
  .exact⟨o1,o2,o3⟩
  .exact g.out p hp
 .rcases mem' p hp with rfl | ⟨hp,hne⟩
  .exact⟨x1,self,hob⟩
  .exact⟨(X.obj p hp).1,(oth _ hne).trans ((hk _ (hR.hr.kp.wr _ (X.obj p hp).1).1).trans (X.obj p hp).2.1),(X.obj p hp).2.2⟩
 .have hne:b≠m:=fun e=>hT (e ▸ o3 (e ▸ hb))
  exact(oth b hne).trans ((hk b (X.s b hb)).trans (X.keep b hb hT))
 .exact(X.bel.trans hR.hr.kp.base).trans ⟨rfl,rfl,rfl,zsm,fun k hk=>by omega⟩
 .cases dst<;>exact hR.fresh
 .cases dst<;>exact hR.n0
theorem RelM.drew(hR:RelM E0 F T G N df s μ a w A κ):RelM E0 F T G N df s μ a w.drew A κ:=by
 obtain⟨g,E,X,hF,hR⟩:=hR;exact⟨g,E,X,hF,hR.hr.drew,hR.fresh,hR.n0,fun i hi=>(hR.tm i hi).mono (fun _ h=>h) (zGQ w A) (fun _ _ h=>h),hR.size,hR.df⟩
theorem RelM.sub{μ2:Mp}(hs:μ2.Sublist μ)(hR:RelM E0 F T G N df s μ a w A κ):RelM E0 F T G N df s μ2 a w A κ:=by
 obtain⟨g,E,X,hF,hR⟩:=hR;exact⟨⟨fun p hp=>g.out p (hs.subset hp),g.nd.sublist (hs.map _)⟩,E,⟨fun p hp=>X.obj p (hs.subset hp),X.s,X.wr,X.keep,X.bel,X.w0,X.gi,X.w0S⟩,hF,hR⟩
theorem RelM.put{dst:Option Nat}(hR:RelM E0 F T G N df s μ a w A κ)(hd:∀ d,dst=some d->d<N){pv:PV}{v':Value}(hv:RV w A κ pv v'):RelM E0 F T G N df (put s dst pv) μ (a.put dst v') w A κ:=by
 obtain⟨g,E,X,hF,hR⟩:=hR;exact⟨g,E,X,hF,by cases dst<;>exact hR.hr,by cases dst<;>exact hR.fresh,by cases dst<;>exact hR.n0,vMG hR.size hd (fun _ _ _=>rfl) hR.tm hv,zEI hR.size,zG0 hR.df⟩
theorem RelM.obj{m:Nat}{ob:Obj}(hR:RelM E0 F T G N df s μ a w A κ)(hm:(m,ob)∈μ):w.heap[m]?=some ob:=by
 obtain⟨g,E,X,hF,hR⟩:=hR;exact(hR.hr.kp.keep m (hR.hr.kp.wr _ (X.obj _ hm).1).1).2.trans (X.obj _ hm).2.1
theorem RelM.val(hR:RelM E0 F T G N df s μ a w A κ){x:Operand}(hx:vB5 N x=true):RV w A κ (ev G s.t x) (a.eval x):=by
 obtain⟨g,E,X,hF,hR⟩:=hR;exact zIL hR.hr hR.tm hx
end
def FnM(P:Program)(G:Gl)(f:FuncId)(args:List PV)(K:PV->St->Mp->Prop)(s:St)(μ:Mp):Prop :=
 callable P f=true/\∀ (E0 E:Env) (T:Nat->Prop) (w:World) (A:Nat->Prop) (κ:Ka) (vs:List Value),E.n0=s.nx->E.κ0=κ->E.A0=A->E.w1=w->MG E E0 T μ->MX E0 T μ E->HR E G w A κ s.h s.z->vDA s.nx κ s.h s.z->RVs w A κ args vs ->
  Calls P f vs.toArray w fun e w'=>∃ v pv A' κ' s' μ' E',e=.returned v/\E'.re E=E'/\E'.M=E.M/\MG E E0 T μ'/\MX E0 T μ' E'/\HR E' G w' A' κ' s'.h s'.z/\vDA s'.nx κ' s'.h s'.z/\s.nx<=s'.nx/\RV w' A' κ' pv v/\K pv s' μ'
def vEZ(P:Program)(rs:List ResultVar)(K:PV->St->Mp->Prop):Exit->St->Mp->Prop
 | .normal,s,μ | .ret,s,μ=>∃ v,vFE P rs s=some v/\K v s μ
 | _,_,_=>False
theorem zH9{E' E1:Env}(h:E'.re E1=E'):∃ S Wr ws w0 M gi,E'={ E1 with S:=S,Wr:=Wr,ws:=ws,w0:=w0,M:=M,gi:=gi }:=⟨E'.S,E'.Wr,E'.ws,E'.w0,E'.M,E'.gi,h.symm⟩
section
variable {P:Program} {G:Gl} {N n0:Nat}
theorem vTH{f:FuncId}{fn:Func}{c:Code}{rs:List ResultVar}{nt:Nat}(ok:FnOk P f fn c rs nt){ds:List PV}(hl:ds.length<=nt){K:PV->St->Mp->Prop}{s:St}{μ:Mp}
 (h:wpM P G nt s.nx c (vEZ P rs K) { s with t:=vEA ds } μ):FnM P G f ds K s μ:=by
 refine⟨ok.callable,fun E0 E T w A κ vs h1 h2 h3 h4 g X H h6 h7=>?_⟩;have H1:=H.m0' (M0:=E.M) fun D hD=>rAW hD
 refine callsIn_wd (ro:=none) (n:=0).1 (callsIn_of_wp_marks ok.hf ok.hb trivial ?_);rw[ok.ht];obtain⟨hsz,htm⟩:=vH2 h7 hl
 have hR:RelM E0 { E with M0:=E.M } T G nt [] { s with t:=vEA ds } μ { tmps:=vs.toArray++Array.replicate (nt - vs.toArray.size) undef,defers:=[] } w A κ :=
  ⟨⟨g.out,g.nd⟩,{ E with M0:=E.M },⟨X.obj,X.s,X.wr,X.keep,X.bel,X.w0,X.gi,X.w0S⟩,rfl,H1,h6,Nat.le_of_eq h1,htm,hsz,[],rfl,rfl⟩
 refine wpIn_mono (h E0 { E with M0:=E.M } T [] _ w A κ h1 hR) fun e a' w' ⟨s',μ',A',κ',⟨g',E',X',hF',hR'⟩,hq⟩=>?_
 have fin:(∃ v,vFE P rs s'=some v/\K v s' μ')->LeavesInM (Wd none) 0 P fn a'.tmps (fun e w'=>∃ v pv A' κ' s' μ' E',e=.returned v/\E'.re E=E'/\E'.M=E.M/\MG E E0 T μ'/\MX E0 T μ' E'/\HR E' G w' A' κ' s'.h s'.z/\vDA s'.nx κ' s'.h s'.z/\s.nx<=s'.nx/\RV w' A' κ' pv v/\K pv s' μ') a'.defers .returning w':=by
  rintro⟨v,hv,hK⟩
  obtain⟨Ms,hMs,hd⟩:=hR'.df;rw[hd,rBQ];obtain⟨S,Wr,ws,w0,M,gi,rfl⟩:=zH9 hF';refine zFZ ok.hr ok.rfits hv Ms _ w' a' hMs hR'.hr hR'.fresh hR'.n0 hR'.tm hR'.size fun w'' u q1 q2=>⟨u,v,A',κ',s',μ',{ E with S:=S,Wr:=Wr,ws:=ws,w0:=w0,gi:=gi },rfl,rfl,rfl,⟨g'.out,g'.nd⟩,⟨X'.obj,X'.s,X'.wr,X'.keep,X'.bel,X'.w0,X'.gi,X'.w0S⟩,?_,hR'.fresh,?_,q2,hK⟩
  .exact HR.m0 (E:={ E with S:=S,Wr:=Wr,ws:=ws,w0:=w0,gi:=gi }) (M0:=E.M) H.kp.mk0 q1
  .have:=hR'.n0
   rw[<- h1]; exact this
 cases e with
 | normal=>exact fin hq
 | ret=>exact fin hq
 | _=>exact hq.elim
theorem zP9{f:FuncId}{args:List PV}{K:PV->St->Prop}{s:St}(h:FnM P G f args (fun v s' _=>K v s') s []):FnH P G f args K s:=by
 refine⟨h.1,fun E w A κ vs h1 h2 h3 h4 H h6 h7=>?_⟩
 exact(h.2 E E (fun _=>False) w A κ vs h1 h2 h3 h4 ⟨fun p hp=>(by cases hp),rDT⟩ ⟨fun p hp=>(by cases hp),fun _ h=>h,fun _ h=>h,fun _ _ _=>rfl,Below.refl _ _,rfl,rfl,fun b hb=>(H.kp.wr b hb).1⟩ H h6 h7).mono
  fun e w' ⟨v,pv,A',κ',s',μ',E',g1,g2,gM,g3,X,g5,g6,g7,g8,g9⟩=>⟨v,pv,A',κ',s',g1,g5.forget X g2 gM (fun _ _ h=>h),g6,g7,g8,g9⟩
variable {s:St} {μ:Mp} {E0 F:Env} {T:Nat->Prop} {df:List Deferred} {a:Act} {w:World} {A:Nat->Prop} {κ:Ka} {o:Oper}
theorem vNH{f:FuncId}{g:Operand}{args:Array Operand}{ts:Array TypeId}{first captured:List PV}{K:PV->St->Mp->Prop}(hR:RelM E0 F T G N df s μ a w A κ)(ho':vBR N o=true)
 (ho:o.op=.call { callee:=.value g,args,argTypes:=ts }) (hev:ev G s.t g=.func (.func f) first captured) (hI:FnM P G f (first++args.toList.map (ev G s.t)++captured) K s μ)
 {next:Act->World->Prop} {Q:Exit->Act->World->Prop}
 (hnext:∀ a' w' A' κ' s' μ' pv,K pv s' μ'->RelM E0 F T G N df (put { s' with t:=s.t } o.dst pv) μ' a' w' A' κ'->next a' w') :
 Oper.wpIn (Wd none) 0 P o a w next Q:=by
 obtain⟨gg,E,X,hF,hR⟩:=hR;have H:=hR.hr;have hx:=zNV H hR.tm ho';have hg:RV w A κ (.func (.func f) first captured) (a.eval g):=by rw[<- hev]; exact hx g (by rw[ho]; simp[Op.operands,Call.operands])
 obtain⟨fs,cs,hρ,hl1,hl2,hf1,hf2⟩:=hg.func_inv
 have hargs:RVs w A κ (first++args.toList.map (ev G s.t)++captured) (fs++args.map a.eval++cs).toList:=by
  simp only[rCJ,rD5];exact zCA (zCA (zCI hl1 hf1) (zLA fun x hxm=>hx x (by rw[ho]; simp[Op.operands,Call.operands]; exact rA0 (by simpa using hxm)))) (zCI hl2 hf2)
 have H':HR { E with n0:=s.nx,κ0:=κ,A0:=A,w1:=w } G w A κ s.h s.z :=
  ⟨H.bel,H.hB,H.alt,fun _ h=>h,fun _ h=>rAW h,fun _ _ _=>rfl,fun _ _=>rfl,H.glob,H.klt,⟨H.kp.base,H.kp.keep,H.kp.wr,H.kp.own,H.kp.mks,H.kp.nd,H.kp.kb,H.kp.kk,H.kp.zk,H.kp.mk0,fun hg=>⟨rA4 (H.kp.gk hg).1 hR.n0,(H.kp.gk hg).2⟩⟩,H.blk,H.excl⟩
 have eK:E.K=F.K:=by rw[<- hF]; rfl
 have eB:E.B=F.B:=by rw[<- hF]; rfl
 have hcall:=hI.2 E0 { E with n0:=s.nx,κ0:=κ,A0:=A,w1:=w } T w A κ _ rfl rfl rfl rfl ⟨fun p hp=>by show ¬ E.K p.1/\E.B<=p.1/\_; rw[eK,eB]; exact gg.out p hp,gg.nd⟩ ⟨X.obj,X.s,X.wr,X.keep,X.bel,X.w0,X.gi,X.w0S⟩ H' hR.fresh hargs;rw[Array.toArray_toList]at hcall;refine⟨fun _ _=>trivial,?_⟩;rw[zEH o (by rw[ho]; simp),zFJ hI.1 ho hρ]
 refine upon_enter (R:=fun v w'=>∃ pv A' κ' s' μ' E',E'.re { E with n0:=s.nx,κ0:=κ,A0:=A,w1:=w }=E'/\E'.M=E.M/\MG { E with n0:=s.nx,κ0:=κ,A0:=A,w1:=w } E0 T μ'/\MX E0 T μ' E'/\HR E' G w' A' κ' s'.h s'.z/\vDA s'.nx κ' s'.h s'.z/\s.nx<=s'.nx/\RV w' A' κ' pv v/\K pv s' μ')
  (hcall.mono fun e w' ⟨v,pv,A',κ',s',μ',E',h1,h2⟩=>⟨v,h1,pv,A',κ',s',μ',E',h2⟩) fun v' w' ⟨pv,A',κ',s',μ',E',hre,hM,g1,X',h1,h2,h3,h4,h5⟩=>?_
 obtain⟨S,Wr,ws,w0,M,gi,rfl⟩:=zH9 hre
 have hk:∀ r x,κ r=some x->κ' r=some x:=fun r x hr=>by
  by_cases hlt:r<s.nx
  .rw[h1.k0 r hlt]; exact hr
  .rw[(hR.fresh r zom).2.2]at hr; cases hr
 have HE:HR { E with S:=S,Wr:=Wr,ws:=ws,w0:=w0,M:=M,gi:=gi } G w' A' κ' s'.h s'.z:=by
  refine⟨h1.bel,h1.hB,h1.alt,fun b hb=>h1.a0 b (H.a0 b hb),fun b hb=>?_,fun b o' hb=>(h1.acell b o' (H.a0 b hb)).trans (H.acell b o' hb),fun r hr=>(h1.k0 r (rA4 hr hR.n0)).trans (H.k0 r hr),h1.glob,h1.klt,⟨h1.kp.base,h1.kp.keep,h1.kp.wr,h1.kp.own,h1.kp.mks,h1.kp.nd,h1.kp.kb,h1.kp.kk,h1.kp.zk,h1.kp.mk0,fun hg=>⟨(H.kp.gk hg).1,(h1.kp.gk hg).2⟩⟩,h1.blk,h1.excl⟩;rcases h1.a1 b hb with h | h
  .exact H.a1 b h
  .exact rA0 h
 refine hnext (a.put o.dst v') w' A' κ' s' μ' pv h5 ⟨⟨fun p hp=>?_,g1.nd⟩,{ E with S:=S,Wr:=Wr,ws:=ws,w0:=w0,M:=M,gi:=gi },⟨X'.obj,X'.s,X'.wr,X'.keep,X'.bel,X'.w0,X'.gi,X'.w0S⟩,by rw[<- hF]; rfl,by cases o.dst<;>exact HE,by cases o.dst<;>exact h2,?_,?_,zEI hR.size,?_⟩
 .have:=g1.out p hp
  rw[<- eK,<- eB]; exact this
 .have:E.n0<=s'.nx:=rBU hR.n0 h3
  cases o.dst<;>exact this
 .have:=zL9 (dst:=o.dst) (v:=pv) (v':=v') hR.size (zCS ho') (zK9 (fun b hb=>h1.a0 b hb) (fun b o' hb=>h1.acell b o' hb) hk hR.tm) h4
  intro j hj;have:=this j hj;cases hdst:o.dst<;>simp only[hdst,put]at this ⊢<;>exact this
 .have hM:M=E.M:=hM
  obtain⟨Ms,q1,q2⟩:=hR.df;exact⟨Ms,by show M=_; rw[hM]; exact q1,uFZ q2⟩
def vE8(P:Program)(G:Gl)(N n0:Nat)(ops l:List Oper)(K:St->Mp->Prop)(s:St)(μ:Mp):Prop :=
 ∀ (E0 F:Env) (T:Nat->Prop) (df:List Deferred) (a:Act) (w:World) (A:Nat->Prop) (κ:Ka),F.n0=n0->RelM E0 F T G N df s μ a w A κ ->
   wpListIn (Wd none) 0 P ops.toArray (fun e a' w'=>∃ s' μ' A' κ',RelM E0 F T G N df s' μ' a' w' A' κ'/\e=.normal/\K s' μ') l a w
variable {ops rest:List Oper} {K:St->Mp->Prop}
theorem zCG{Q:Exit->St->Mp->Prop}{id:Nat}{ops:Array Oper}(h:vE8 P G N n0 ops.toList ops.toList (Q .normal) s μ):wpM P G N n0 (.region id ops false) Q s μ:=fun E0 F T df a w A κ hn hR=>by
 have h':=h E0 F T df a w A κ hn hR;rw[show ops.toList.toArray=ops by simp]at h';refine wpIn_mono (wpIn_region_list h') fun e a' w' ⟨s',μ',A',κ',h1,h2,h3⟩=>?_
 subst h2;exact⟨s',μ',A',κ',h1,h3⟩
theorem zDO(h:K s μ):vE8 P G N n0 ops [] K s μ:=fun E0 F T df a w A κ hn hR=>by
 unfold wpListIn;exact⟨s,μ,A,κ,hR,rfl,h⟩
theorem zIB(hg:o.guard=none)(hd:∀ c,o.op≠.defer c)
 (h:∀ (E0 F:Env) (T:Nat->Prop) (df:List Deferred) (a:Act) (w:World) (A:Nat->Prop) (κ:Ka),F.n0=n0->RelM E0 F T G N df s μ a w A κ->∃ v w' s' μ',((execOp a.eval o).run P w=.ok (.value v) w'\/((execOp a.eval o).run P w=.ok .skip w'/\v=undef))/\RelM E0 F T G N df s' μ' (a.put o.dst v) w' A κ/\vE8 P G N n0 ops rest K s' μ') :
 vE8 P G N n0 ops (o::rest) K s μ:=fun E0 F T df a w A κ hn hR=>by
 obtain⟨v,w',s',μ',h1,h2,h3⟩:=h E0 F T df a w A κ hn hR;unfold wpListIn;rw[rAU (by simp[Region.wanted,hg])];refine⟨fun _ _=>trivial,?_⟩;rw[zEH o hd];have:=h3 E0 F T df _ w' A κ hn h2;rcases h1 with h1 | ⟨h1,rfl⟩
 .rw[h1]; exact this
 .rw[h1]; exact this
theorem zJZ{f:FuncId}{g:Operand}{args:Array Operand}{ts:Array TypeId}{first captured:List PV}(hg:o.guard=none)(ho':vBR N o=true)
 (ho:o.op=.call { callee:=.value g,args,argTypes:=ts }) (hev:ev G s.t g=.func (.func f) first captured)
 (hI:FnM P G f (first++args.toList.map (ev G s.t)++captured) (fun pv s' μ'=>vE8 P G N n0 ops rest K (put { s' with t:=s.t } o.dst pv) μ') s μ):vE8 P G N n0 ops (o::rest) K s μ:=fun E0 F T df a w A κ hn hR=>by
 unfold wpListIn;rw[rAU (by simp[Region.wanted,hg])];exact vNH hR ho' ho hev hI fun a' w' A' κ' s' μ' pv hK hR'=>hK E0 F T df a' w' A' κ' hn hR'
theorem uIB(hg:o.guard=none)(ho':vBR N o=true)(h:vE9 P G (FnC P G) (FnH P G) false o (fun _ s'=>vE8 P G N n0 ops rest K s' μ) s):vE8 P G N n0 ops (o::rest) K s μ:=fun E0 F T df a w A κ hn hR=>by
 obtain⟨gg,E,X,hF,hR⟩:=hR;unfold wpListIn;rw[rAU (by simp[Region.wanted,hg])];rcases zIC h with⟨fp,v,h',z',hd,hrest⟩ | ⟨hD,g,args,ts,f,first,captured,ho,hev,hI⟩
 .obtain⟨l1,l2,l3,_⟩:=zEP hd
  refine zNF (ops:=[o]) (uNA E0 T μ) X (by simpa using ho') zsm hR.hr hR.tm hR.size hR.df hR.n0 (hR.fresh s.nx (rAR _)) hd fun E' w' A' κ' a' hX' hre g1 g2 g3 g4 g5=>?_
  refine hrest E0 F T df a' w' A' κ' hn ⟨gg,E',hX',zJV hF hre,by simpa using g1,fun r hr=>?_,by rw[zE9,zMP hre]; exact rC2 hR.n0,?_,g3,g4⟩
  .rw[zE9]at hr
   have hne:r≠s.nx:=by
    have:s.nx+1<=r:=hr;omega
   obtain⟨q1,q2,q3⟩:=hR.fresh r (by have:s.nx+1<=r:=hr; omega);obtain⟨m1,m2⟩:=l2 r hne q1;refine⟨by simpa using m1,?_,by rw[g5 r hne]; exact q3⟩;simp only[zMQ];rw[l3];simp only[vCG,q2,rCM];exact contains_false.2 m2
  .have e:∀ j,(Go.PI.put { s with h:=h',z:=z',nx:=s.nx+1 } o.dst v).t j=(Go.PI.put { s with h:=h',z:=z' } o.dst v).t j:=fun j=>by cases o.dst<;>rfl
   intro j hj;rw[e]; exact g2 j hj
 .refine zHZ hR.hr hR.n0 hR.fresh (zNV hR.hr hR.tm ho') ho hev hI fun w' A' κ' s' v' pv hK g1 g2 g3 g4 g5 g6 g7=>?_
  refine hK E0 F T df _ w' A' κ' hn ⟨gg,E,X,hF,by simpa using g1,by simpa using g2,by rw[zE9]; exact rBU hR.n0 g3,?_,zEI hR.size,zG0 hR.df⟩;have:=zL9 (dst:=o.dst) (v:=pv) (v':=v') hR.size (zCS ho') (zK9 g6 g7 g5 hR.tm) g4;intro j hj;have:=this j hj;cases hdst:o.dst<;>simp only[hdst,Go.PI.put]at this ⊢<;>exact this
end
theorem vTS{P:Program}{G:Gl}{N n0:Nat}{c:Code}{Q:Exit->St->Mp->Prop}{s:St}{μ μ2:Mp}(hs:μ2.Sublist μ)(h:wpM P G N n0 c Q s μ2):wpM P G N n0 c Q s μ:=fun E0 F T df a w A κ hn hR=>h E0 F T df a w A κ hn (hR.sub hs)
attribute [irreducible] vE8 wpM
open Go.RowKit Go.MapKept
def IsSet(ks:List Int)(es:Array MapEntry)(clock:Nat):Prop :=
 es.toList.map (fun e=>(e.key,e.val))=ks.map (fun k=>(Value.int .i64 k,Value.bool true))/\Stamped es clock
def uDZ(ks:List Int)(k:Int):List Int:=if k∈ks then ks else ks++[k]
theorem vHO{ks:List Int}{k j:Int}:j∈uDZ ks k↔j∈ks\/j=k:=by
 unfold uDZ
 split
 .rename_i h
  exact⟨rAW,fun e=>e.elim id fun e=>e ▸ h⟩
 .simp
theorem vYC:IsSet [] #[] 0:=⟨rfl,stamped_empty 0⟩
theorem IsSet.key{ks:List Int}{es:Array MapEntry}{clock:Nat}(h:IsSet ks es clock){e:MapEntry}(he:e∈es.toList):∃ k∈ks,e.key=.int .i64 k/\e.val=.bool true:=by
 have:(e.key,e.val)∈es.toList.map (fun e=>(e.key,e.val)):=rA5.2 ⟨e,he,rfl⟩;rw[h.1]at this;obtain⟨k,hk,e1⟩:=rA5.1 this;simp only[rGN]at e1;exact⟨k,hk,e1.1.symm,e1.2.symm⟩
theorem IsSet.mem{ks:List Int}{es:Array MapEntry}{clock:Nat}(h:IsSet ks es clock){k:Int}(hk:k∈ks):∃ e∈es.toList,e.key=.int .i64 k:=by
 have:(Value.int .i64 k,Value.bool true)∈ks.map (fun k=>(Value.int .i64 k,Value.bool true)):=rA5.2 ⟨k,hk,rfl⟩;rw[<- h.1]at this;obtain⟨e,he,e1⟩:=rA5.1 this;simp only[rGN]at e1;exact⟨e,he,e1.1⟩
theorem IsSet.keys{ks:List Int}{es:Array MapEntry}{clock:Nat}(h:IsSet ks es clock):∀ x∈es.toList,IsKey (.int .i64) x.key:=fun x hx=>by
 obtain⟨k,_,e,_⟩:=h.key hx;rw[e]; rfl
section
variable {P:Program} {w:World} {m it:Nat} {es:Array MapEntry} {clock:Nat} {ks:List Int}
theorem vJA(t:TypeId):(Instr.makeMap t none).run P w=.ok (.map (some w.heap.size)) (w.alloc (.map #[] 0)):=rfl
theorem vRJ{t kt et:TypeId}(ht:P.underlying t=some (.map kt et))(hb:w.heap[m]?=some (.map es clock)) :
 (Instr.range t (.map (some m))).run P w=.ok (.pointer (some ⟨w.heap.size,0,none⟩)) (w.alloc (.mapIter (some m) clock #[] clock)):=run_range_map w t kt et m es clock ht hb
theorem vRI{mt kt et:TypeId}(hm:P.underlying mt=some (.map kt et))(hd:P.underlying kt=some (.int .i64))(hb:w.heap[m]?=some (.map es clock))(hs:IsSet ks es clock)(k:Int) :
 ∃ es' clock',(Instr.mapUpdate mt (.map (some m)) (.int .i64 k) (.bool true)).run P w=.ok () (w.putObj m (.map es' clock'))/\IsSet (uDZ ks k) es' clock':=by
 have hk:IsKey (.int .i64) (.int .i64 k):=rfl;rcases findNow_spec hk es.toList 0 hs.keys with⟨h1,h2⟩ | ⟨j,e,h1,h2,h3⟩
 .refine⟨es.push { key:=.int .i64 k,val:=.bool true,born:=clock },clock+1,?_,?_,stamped_push hs.2 h2⟩
  .simp[Instr.mapUpdate,run_underlying hm,MapKept.run_getObj_map hb,run_checkKey hd hk,run_findKey hd h1,run_setObj_map _ hb,Result.andThen,World.putObj]
  .have hn:k∉ks:=fun hk=>by
    obtain⟨e,he,e1⟩:=hs.mem hk;exact h2 e he e1
   unfold uDZ;rw[rAM hn];simp[hs.1]
 .have hj:es[j]?=some e:=by simpa using h2
  have hkey:∀ e',es[j]?=some e'->({ e' with key:=.int .i64 k,val:=.bool true }:MapEntry).key=e'.key:=fun e' he'=>by rw[hj]at he'; cases he'; exact h3.symm
  refine⟨es.modify j fun e'=>{ e' with key:=.int .i64 k,val:=.bool true },clock,?_,?_,stamped_modify hs.2 _ _ (fun _ _=>rfl) (fun e' _ he'=>hkey e' he')⟩
  .simp[Instr.mapUpdate,run_underlying hm,MapKept.run_getObj_map hb,run_checkKey hd hk,run_findKey hd h1,hj,h3,run_keyThatStays hk,run_setObj_map _ hb,Result.andThen,World.putObj]
  .have he:e∈es.toList:=rAS h2
   obtain⟨k',hk',e1,e2⟩:=hs.key he;rw[h3]at e1;cases e1
   unfold uDZ;rw[rAU hk',<- hs.1];apply List.ext_getElem?;intro i;simp only[rBP,Array.getElem?_toList,Array.getElem?_modify];by_cases hij:j=i
   .subst hij
    rw[rAU rfl,hj];simp[h3,e2]
   .rw[rAM hij]
theorem uBM{mt kt et:TypeId}(hm:P.underlying mt=some (.map kt et))(hd:P.underlying kt=some (.int .i64))(hz:∀ w,(zeroValue et).run P w=.ok (.bool false) w)(hb:w.heap[m]?=some (.map es clock))(hs:IsSet ks es clock)(k:Int) :
 (Instr.lookup mt (.map (some m)) (.int .i64 k) false).run P w=.ok (.bool (decide (k∈ks))) w:=by
 have hk:IsKey (.int .i64) (.int .i64 k):=rfl;rcases findNow_spec hk es.toList 0 hs.keys with⟨h1,h2⟩ | ⟨j,e,h1,h2,h3⟩
 .have hn:k∉ks:=fun hk=>by
   obtain⟨e,he,e1⟩:=hs.mem hk;exact h2 e he e1
  simp[Instr.lookup,run_underlying hm,MapKept.run_getObj_map hb,run_checkKey hd hk,run_findKey hd h1,Result.andThen,hz,hn]
 .obtain⟨k',hk',e1,e2⟩:=hs.key (rAS h2)
  rw[h3]at e1;cases e1
  simp[Instr.lookup,run_underlying hm,MapKept.run_getObj_map hb,run_checkKey hd hk,run_findKey hd h1,Result.andThen,e2,hk']
theorem vU3{ty:TypeId}{since c0:Nat}{seen:Array Nat}(hi:w.heap[it]?=some (.mapIter (some m) since seen c0))(hb:w.heap[m]?=some (.map es clock))(hold:∀ x∈es.toList,x.born<since)(hsc:since<=c0) :
 ((leftOf es seen).size=0/\(Instr.next (.pointer (some ⟨it,0,none⟩)) false ty).run P w=.ok (.tuple #[.bool false]) w) \/
 ∃ e∈(leftOf es seen).toList,∃ w1:World,(w1=w\/w1=w.drew)/\(Instr.next (.pointer (some ⟨it,0,none⟩)) false ty).run P w=.ok (.tuple #[.bool true,e.key,e.val]) (w1.putObj it (.mapIter (some m) since (seen.push e.born) clock)):=by
 simp only[Instr.next,getObj,Sem.run_bind,Sem.run,hi,hb,Result.andThen,next_test_false seen es since c0 hold hsc,rCF,rCL];unfold leftOf;have hmem:∀ x∈(Array.filter (fun e=>!seen.contains e.born) es).toList,x.born<since:=fun x hx=>hold x (by simp at hx ⊢; exact hx.1)
 generalize Array.filter (fun e=>!seen.contains e.born) es=L at hmem ⊢;have e1:L.filter (fun x=>decide (x.born<since))=L:=Array.filter_eq_self.2 (fun x hx=>by simpa using hmem x (by simpa using hx))
 have e2:L.filter (fun x=>decide (x.born>=since))=#[]:=by
  rw[Array.filter_eq_empty_iff];intro x hx;have:=hmem x (by simpa using hx)
  simp
  omega
 simp only[e1,e2,Array.append_empty];by_cases h0:L.size=0
 .left
  have:L=#[]:=rDM h0;subst this;refine⟨rfl,?_⟩;simp[choose,Sem.run,Question.forced]
 .right
  have hne:L.isEmpty=false:=by simp[Array.isEmpty,h0]
  simp only[hne,rCF,rCL,Array.empty_append,Array.size_map]
  have hch:∃ (j:Nat) (w1:World),j<L.size/\(w1=w\/w1=w.drew)/\(choose (Question.mapNext L.size)).run P w=.ok j w1:=by
   by_cases hf:L.size<=1
   .exact⟨0,w,zom,rAW rfl,by simp[choose,Sem.run,Question.forced,hf]⟩
   .exact⟨_,w.drew,rDK _ zom,rA0 rfl,by
     simp only[choose,Sem.run,Question.forced,rAY,hf,rCL,Question.cut]
     rfl⟩
  obtain⟨j,w1,hj,hal,hrun⟩:=hch;refine⟨L[j],zsm,w1,hal,?_⟩;have hi1:w1.heap[it]?=some (.mapIter (some m) since seen c0):=by rcases hal with rfl | rfl<;>exact hi
  have hset:∀ o',(setObj it o').run P w1=.ok () (w1.putObj it o'):=fun o'=>by
   simp only[setObj,Sem.run];rw[hi1];rfl
  simp only[hrun,Array.getElem?_map,rCV hj,Option.map_some,Sem.run_bind,hset,Result.andThen];rfl
theorem vRK{since:Nat}{seen:Array Nat}{e:MapEntry}(hi:w.heap[it]?=some (.mapIter (some m) since (seen.push e.born) clock))(hb:w.heap[m]?=some (.map es clock))(he:e∈es.toList)(hn:(es.toList.map (·.born)).Nodup) :
 (Instr.entry (.pointer (some ⟨it,0,none⟩))).run P w=.ok (.tuple #[e.key,e.val]) w:=by
 have hf:es.find? (·.born == e.born)=some e:=by rw[<- Array.find?_toList]; exact find_born e es.toList hn he
 simp only[Instr.entry,getObj,Sem.run_bind,Sem.run,hi,hb,Result.andThen,Array.back?_push,bne_self_eq_false,rCF,rCL,hf];rfl
end
section
variable {P:Program} {G:Gl} {N n0:Nat} {s:St} {μ μ1 μ2:Mp} {o:Oper} {ops rest:List Oper} {K:St->Mp->Prop} {m it:Nat} {es:Array MapEntry} {clock:Nat} {ks:List Int}
theorem vV5{t:TypeId}(hg:o.guard=none)(hf:vBR N o=true)(ho:o.op=.makeMap t none)
 (h:∀ m,vE8 P G N n0 ops rest K (put s o.dst (.raw (.map (some m)))) ((m,.map #[] 0)::μ)):vE8 P G N n0 ops (o::rest) K s μ :=
 zIB hg (by rw[ho]; simp) fun E0 F T df a w A κ hn hR=>⟨.map (some w.heap.size),w.alloc (.map #[] 0),_,_,rAW (by simp[execOp,ho,vJA,Result.andThen]),hR.new (zCS hf) (.map #[] 0) rfl (.data _ _ (.raw _)),h _⟩
theorem uB5{t kt et:TypeId}{x:Operand}(hg:o.guard=none)(hf:vBR N o=true)(ho:o.op=.range t x)(hx:ev G s.t x=.raw (.map (some m)))(ht:P.underlying t=some (.map kt et))(hm:(m,.map es clock)∈μ)
 (h:∀ it,vE8 P G N n0 ops rest K (put s o.dst (.raw (.pointer (some ⟨it,0,none⟩)))) ((it,.mapIter (some m) clock #[] clock)::μ)):vE8 P G N n0 ops (o::rest) K s μ :=
 zIB hg (by rw[ho]; simp) fun E0 F T df a w A κ hn hR=>by
  have hv:=hR.val (x:=x) (by simp only[vBR,ho,rAO,rBG]at hf; exact hf.2 x rAD);rw[hx]at hv;exact⟨.pointer (some ⟨w.heap.size,0,none⟩),w.alloc (.mapIter (some m) clock #[] clock),_,_,rAW (by simp[execOp,ho,hv.raw_inv,vRJ ht (hR.obj hm),Result.andThen]),hR.new (zCS hf) (.mapIter (some m) clock #[] clock) rfl (.data _ _ (.raw _)),h _⟩
theorem vV4{x:Operand}{since c0:Nat}{seen:Array Nat}(hg:o.guard=none)(hf:vBR N o=true)(ho:o.op=.next x false)(hx:ev G s.t x=.raw (.pointer (some ⟨it,0,none⟩)))
 (hm:(m,.map es clock)∈μ1++(it,.mapIter (some m) since seen c0)::μ2) (hold:∀ x∈es.toList,x.born<since) (hsc:since<=c0)
 (h1:(leftOf es seen).size=0->vE8 P G N n0 ops rest K (put s o.dst (.tup [.bool false])) (μ1++(it,.mapIter (some m) since seen c0)::μ2))
 (h2:∀ e∈(leftOf es seen).toList,vE8 P G N n0 ops rest K (put s o.dst (.tup [.bool true,.any,.any])) (μ1++(it,.mapIter (some m) since (seen.push e.born) clock)::μ2)):vE8 P G N n0 ops (o::rest) K s (μ1++(it,.mapIter (some m) since seen c0)::μ2) :=
 zIB hg (by rw[ho]; simp) fun E0 F T df a w A κ hn hR=>by
  have hv:=hR.val (x:=x) (by simp only[vBR,ho,rAO,rBG]at hf; exact hf.2 x rAD);rw[hx]at hv;rcases vU3 (P:=P) (ty:=o.type) (hR.obj (m:=it) (ob:=.mapIter (some m) since seen c0) zsm) (hR.obj hm) hold hsc with⟨q1,q2⟩ | ⟨e,he,w1,hw,q2⟩
  .refine⟨.tuple #[.bool false],w,_,_,rAW (by simp[execOp,ho,hv.raw_inv,q2,Result.andThen]),hR.put (zCS hf) (.tup [.bool false] _ rfl fun i d hd=>?_),h1 q1⟩
   match i with
   | 0=>simp at hd; subst hd; exact .data _ _ (.bool false)
   | i+1=>simp at hd
  .have hR1:RelM E0 F T G N df s (μ1++(it,.mapIter (some m) since seen c0)::μ2) a w1 A κ:=by
    rcases hw with rfl | rfl
    .exact hR
    .exact hR.drew
   refine⟨.tuple #[.bool true,e.key,e.val],_,_,_,rAW (by simp[execOp,ho,hv.raw_inv,q2,Result.andThen]),hR1.set (zCS hf) (ob':=.mapIter (some m) since (seen.push e.born) clock) rfl zsm (pv:=.tup [.bool true,.any,.any]) (.tup _ _ rfl fun i d hd=>?_),h2 e he⟩
   match i with
   | 0=>simp at hd; subst hd; exact .data _ _ (.bool true)
   | 1=>simp at hd; subst hd; exact .any _
   | 2=>simp at hd; subst hd; exact .any _
   | i+3=>simp at hd
theorem vR0{x:Operand}{since:Nat}{seen:Array Nat}{e:MapEntry}{k:Int}(hg:o.guard=none)(hf:vBR N o=true)(ho:o.op=.entry x)(hx:ev G s.t x=.raw (.pointer (some ⟨it,0,none⟩)))
 (hi:(it,.mapIter (some m) since (seen.push e.born) clock)∈μ) (hm:(m,.map es clock)∈μ) (he:e∈es.toList) (hn:(es.toList.map (·.born)).Nodup) (hk:e.key=.int .i64 k)
 (h:vE8 P G N n0 ops rest K (put s o.dst (.tup [.int .i64 k,.any])) μ):vE8 P G N n0 ops (o::rest) K s μ :=
 zIB hg (by rw[ho]; simp) fun E0 F T df a w A κ _ hR=>by
  have hv:=hR.val (x:=x) (by simp only[vBR,ho,rAO,rBG]at hf; exact hf.2 x rAD);rw[hx]at hv;refine⟨.tuple #[e.key,e.val],w,_,_,rAW (by simp[execOp,ho,hv.raw_inv,vRK (hR.obj hi) (hR.obj hm) he hn,Result.andThen]),hR.put (zCS hf) (.tup [.int .i64 k,.any] _ rfl fun i d hd=>?_),h⟩
  match i with
  | 0=>simp at hd; subst hd; rw[hk]; exact .data _ _ (.int .i64 k)
  | 1=>simp at hd; subst hd; exact .any _
  | i+2=>simp at hd
theorem zI6{t kt et:TypeId}{x y z:Operand}{k:Int}(hg:o.guard=none)(hf:vBR N o=true)(ho:o.op=.mapUpdate t x y z)(hx:ev G s.t x=.raw (.map (some m)))(hy:ev G s.t y=.int .i64 k)(hz:ev G s.t z=.bool true)
 (ht:P.underlying t=some (.map kt et)) (hd:P.underlying kt=some (.int .i64)) (hs:IsSet ks es clock)
 (h:∀ es' clock',IsSet (uDZ ks k) es' clock'->vE8 P G N n0 ops rest K (put s o.dst .any) (μ1++(m,.map es' clock')::μ2)):vE8 P G N n0 ops (o::rest) K s (μ1++(m,.map es clock)::μ2) :=
 zIB hg (by rw[ho]; simp) fun E0 F T df a w A κ hn hR=>by
  have hfx:∀ x'∈o.op.operands.toList,vB5 N x'=true:=by simp only[vBR,rAO,rBG]at hf; exact hf.2
  rw[ho]at hfx;have hv1:=hR.val (x:=x) (hfx x rAD);have hv2:=hR.val (x:=y) (hfx y rAD);have hv3:=hR.val (x:=z) (hfx z rAD);rw[hx]at hv1; rw[hy]at hv2; rw[hz]at hv3;obtain⟨es',clock',q1,q2⟩:=vRI ht hd (hR.obj (m:=m) (ob:=.map es clock) zsm) hs k;exact⟨undef,w.putObj m (.map es' clock'),_,_,rA0 ⟨by simp[execOp,ho,hv1.raw_inv,hv2.int_inv,hv3.bool_inv,q1,Result.andThen],rfl⟩,hR.set (zCS hf) (ob':=.map es' clock') rfl zsm (.any _),h es' clock' q2⟩
theorem vV6{t kt et:TypeId}{x y:Operand}{k:Int}(hg:o.guard=none)(hf:vBR N o=true)(ho:o.op=.lookup t x y false)(hx:ev G s.t x=.raw (.map (some m)))(hy:ev G s.t y=.int .i64 k)
 (ht:P.underlying t=some (.map kt et)) (hd:P.underlying kt=some (.int .i64)) (hz:∀ w,(zeroValue et).run P w=.ok (.bool false) w) (hs:IsSet ks es clock) (hm:(m,.map es clock)∈μ)
 (h:vE8 P G N n0 ops rest K (put s o.dst (.bool (decide (k∈ks)))) μ):vE8 P G N n0 ops (o::rest) K s μ :=
 zIB hg (by rw[ho]; simp) fun E0 F T df a w A κ hn hR=>by
  have hfx:∀ x'∈o.op.operands.toList,vB5 N x'=true:=by simp only[vBR,rAO,rBG]at hf; exact hf.2
  rw[ho]at hfx;have hv1:=hR.val (x:=x) (hfx x rAD);have hv2:=hR.val (x:=y) (hfx y rAD);rw[hx]at hv1; rw[hy]at hv2;exact⟨.bool (decide (k∈ks)),w,_,_,rAW (by simp[execOp,ho,hv1.raw_inv,hv2.int_inv,uBM ht hd hz (hR.obj hm) hs,Result.andThen]),hR.put (zCS hf) (.data _ _ (.bool _)),h⟩
end
open Go.RowKit
theorem uLF{G:Gl}{n0:Nat}{s:St}{j sz:Nat}{agg:Bool}(hj:s.t j=.nilsl) :
 LeS G n0 s ⟨vF7 s.t j (.own s.nx 0 0),hset s.h s.nx (some ⟨[],sz,agg⟩),s.z,s.nx+1⟩:=by
 intro E N df a w A κ hE hR;have hf:=hR.fresh s.nx (rAR _);have hn:E.n0<=s.nx:=hR.n0;have hk:=hf.2.2;have hle:=zDH (0,sz,0) hk;refine⟨A,vDM κ s.nx (0,sz,0),⟨hR.hr.empty hn hk,fun r hr=>?_,rC2 hn,fun i hi=>?_,hR.size,hR.df⟩⟩
 .have hr':s.nx+1<=r:=hr
  have hne:r≠s.nx:=by omega
  have h:=hR.fresh r zom;exact⟨by simp only[hset,rAM hne]; exact h.1,h.2.1,by rw[zAO κ _ hne]; exact h.2.2⟩
 .show RV w A _ (vF7 s.t j (.own s.nx 0 0) i) _
  have hv:=hR.tm i hi;unfold vF7
  split
  .rename_i e
   subst e;rw[hj]at hv;rw[hv.nilsl_inv];exact zEO (zAZ ..) none
  .exact hv.mono (fun _ h=>h) (fun _ _ _=>rfl) hle
theorem HR.retell{E:Env}{G:Gl}{w:World}{A:Nat->Prop}{κ:Ka}{h:Hp}{z:Fz}(H:HR E G w A κ h z){r:Nat}{b b':Blk}(hb:h r=some b)(hsz:b'.sz=b.sz)(hagg:b'.agg=b.agg)(hlen:b'.els.length<=b.els.length)
 (hel:∀ (i:Nat) (e':PV),b'.els[i]?=some e'->∃ e:PV,b.els[i]?=some e/\e'.cells.length=e.cells.length/\e'.isAgg=e.isAgg/\∀ (j:Nat) (d':PV),e'.cells[j]?=some d'->∃ d:PV,e.cells[j]?=some d/\∀ v,RV w A κ d v->RV w A κ d' v)
 (hg:∀ i,b=vC7 i->b'=b):HR E G w A κ (hset h r (some b')) z:=by
 have get:∀ r' q,hset h r (some b') r'=some q->∃ q0,h r'=some q0/\(q=q0\/(r'=r/\q=b'/\q0=b)):=fun r' q hq=>by
  unfold hset at hq
  split at hq
  .rename_i e; subst e; cases hq; exact⟨b,hb,rA0 ⟨rfl,rfl,rfl⟩⟩
  .exact⟨q,hq,rAW rfl⟩
 refine⟨H.bel,H.hB,H.alt,H.a0,H.a1,H.acell,H.k0,H.glob,H.klt,⟨H.kp.base,H.kp.keep,H.kp.wr,fun r' q m sz cap hq hκ hc hz=>?_,H.kp.mks,H.kp.nd,H.kp.kb,H.kp.kk,H.kp.zk,H.kp.mk0,fun g=>⟨(H.kp.gk g).1,(H.kp.gk g).2.1,fun q hq=>?_⟩⟩,fun r' q hq hκ=>?_,fun r1 r2 q1 q2 m1 m2 s1 s2 c1 c2 hne h1 h2=>?_⟩
 .obtain⟨q0,h1,_⟩:=get r' q hq
  exact H.kp.own r' q0 m sz cap h1 hκ hc hz
 .obtain⟨q0,h1,h2⟩:=get 0 q hq
  have e:=(H.kp.gk g).2.2 q0 h1;rcases h2 with rfl | ⟨_,rfl,rfl⟩
  .exact e
  .rw[hg _ e]; exact e
 .obtain⟨q0,h1,h2⟩:=get r' q hq
  rcases h2 with rfl | ⟨rfl,rfl,rfl⟩
  .exact H.blk r' q h1 hκ
  .obtain⟨m,cap,g1,g2,g3,g4⟩:=H.blk r' q0 h1 hκ
   refine⟨m,cap,by rw[hsz]; exact g1,zom,fun e' he=>?_,?_⟩
   .obtain⟨i,hi,rfl⟩:=rA8 he
    obtain⟨e,e1,e2,e3,_⟩:=hel i _ (rAQ hi);have:=g3 e (rAS e1);rw[e2,e3,hsz,hagg]; exact this
   .rcases g4 with g4 | ⟨c,ty,f1,f2,f3,f4,f5,f6,f7⟩
    .exact rAW g4
    .refine rA0 ⟨c,ty,f1,f2,by rw[hsz]; exact f3,f4,fun i e' he j d' hd=>?_,f6,f7⟩
     rw[hsz];obtain⟨e,e1,e2,e3,e4⟩:=hel i e' he;obtain⟨d,d1,d2⟩:=e4 j d' hd;obtain⟨u,t1,t2,t3⟩:=f5 i e e1 j d d1;exact⟨u,t1,d2 u t2,t3⟩
 .obtain⟨p1,g1,_⟩:=get r1 q1 h1
  obtain⟨p2,g2,_⟩:=get r2 q2 h2;exact H.excl r1 r2 p1 p2 m1 m2 s1 s2 c1 c2 hne g1 g2
def uLL(b:Blk)(i c:Nat)(v:PV):Blk:=match b.els[i]? with
 | some (.agg cs)=>⟨b.els.set i (.agg (cs.set c v)),b.sz,b.agg⟩
 | _=>b
theorem uFE{G:Gl}{n0:Nat}{s:St}{r i c sz:Nat}{agg:Bool}{b:Blk}{cs:List PV}(hb:s.h r=some b)(hi:b.els[i]?=some (.agg cs))(hc:cs[c]?=some .nilsl) :
 LeS G n0 s ⟨s.t,hset (hset s.h s.nx (some ⟨[],sz,agg⟩)) r (some (uLL b i c (.own s.nx 0 0))),s.z,s.nx+1⟩:=by
 intro E N df a w A κ hE hR;have hf:=hR.fresh s.nx (rAR _);have hn:E.n0<=s.nx:=hR.n0;have hk:=hf.2.2;have hle:=zDH (0,sz,0) hk;have hrn:r<s.nx:=rD3 fun e=>by have:=(hR.fresh r e).1; rw[this]at hb; cases hb
 have eset:uLL b i c (.own s.nx 0 0)=⟨b.els.set i (.agg (cs.set c (.own s.nx 0 0))),b.sz,b.agg⟩:=by unfold uLL; rw[hi]
 have H1:=hR.hr.empty (sz:=sz) (agg:=agg) hn hk;have hb1:hset s.h s.nx (some ⟨[],sz,agg⟩) r=some b:=by simp only[hset,rAM (show r≠s.nx by omega)]; exact hb
 have H2:HR E G w A (vDM κ s.nx (0,sz,0)) (hset (hset s.h s.nx (some ⟨[],sz,agg⟩)) r (some (uLL b i c (.own s.nx 0 0)))) s.z:=by
  rw[eset];refine H1.retell hb1 rfl rfl zsm (fun j e' he=>?_) (fun k e=>?_)
  .rw [rEJ]at he
   split at he
   .rename_i e
    subst e
    split at he
    .cases he
     refine⟨_,hi,by simp[PV.cells],rfl,fun q d' hd=>?_⟩;simp only[PV.cells,rEJ]at hd
     split at hd
     .rename_i e
      subst e
      split at hd
      .cases hd
       refine⟨_,hc,fun v hv=>?_⟩;rw[hv.nilsl_inv];exact zEO (zAZ ..) none
      .cases hd
     .exact⟨d',hd,fun _ h=>h⟩
    .cases he
   .exact⟨e',he,rfl,rfl,fun q d' hd=>⟨d',hd,fun _ h=>h⟩⟩
  .subst e
   match i,hi with
   | 0,hi=>simp[vC7]at hi
   | i+1,hi=>simp[vC7]at hi
 refine⟨A,vDM κ s.nx (0,sz,0),⟨H2,fun q hq=>?_,rC2 hn,fun j hj=>?_,hR.size,hR.df⟩⟩
 .have hq':s.nx+1<=q:=hq
  have hne:q≠s.nx:=by omega
  have h:=hR.fresh q zom;exact⟨by simp only[hset,rAM hne,rAM (show q≠r by omega)]; exact h.1,h.2.1,by rw[zAO κ _ hne]; exact h.2.2⟩
 .exact(hR.tm j hj).mono (fun _ h=>h) (fun _ _ _=>rfl) hle
inductive Np where
 | sl (j:Nat)
 | cl (r i c:Nat)
def uJM:St->List (Np×Nat×Bool)->St
 | s,[]=>s
 | ⟨t,h,z,nx⟩,(.sl j,sz,agg)::l=>uJM ⟨ts t j (.own nx 0 0),hs h nx (some ⟨[],sz,agg⟩),z,nx+1⟩ l
 | ⟨t,h,z,nx⟩,(.cl r i c,sz,agg)::l=>(match h r with
   | some b=>uJM ⟨t,hs (hs h nx (some ⟨[],sz,agg⟩)) r (some (uLL b i c (.own nx 0 0))),z,nx+1⟩ l
   | none=>⟨t,h,z,nx⟩)
def vSQ:St->List (Np×Nat×Bool)->Prop
 | _,[]=>True
 | ⟨t,h,z,nx⟩,(.sl j,sz,agg)::l=>t j=.nilsl/\vSQ ⟨ts t j (.own nx 0 0),hs h nx (some ⟨[],sz,agg⟩),z,nx+1⟩ l
 | ⟨t,h,z,nx⟩,(.cl r i c,sz,agg)::l=>∃ b cs,h r=some b/\b.els[i]?=some (.agg cs)/\cs[c]?=some .nilsl/\vSQ ⟨t,hs (hs h nx (some ⟨[],sz,agg⟩)) r (some (uLL b i c (.own nx 0 0))),z,nx+1⟩ l
theorem zK6{G:Gl}{n0:Nat}:∀ {N:List (Np×Nat×Bool)} {s s':St},vSQ s N->LeS G n0 (uJM s N) s'->LeS G n0 s s'
 | [],⟨t,h,z,nx⟩,s',_,hl=>hl
 | (.sl j,sz,agg)::l,⟨t,h,z,nx⟩,s',hN,hl=>by
   have h1:=uLF (G:=G) (n0:=n0) (s:=⟨t,h,z,nx⟩) (sz:=sz) (agg:=agg) hN.1;refine h1.trans ?_;have h2:=zK6 (N:=l) hN.2 hl;rw[vLN,zFP]at h2;exact h2
 | (.cl r i c,sz,agg)::l,⟨t,h,z,nx⟩,s',hN,hl=>by
   obtain⟨b,cs,g1,g2,g3,g4⟩:=hN;have h1:=uFE (G:=G) (n0:=n0) (s:=⟨t,h,z,nx⟩) (sz:=sz) (agg:=agg) g1 g2 g3;refine h1.trans ?_;unfold uJM at hl;rw[g1]at hl;have h2:=zK6 (N:=l) g4 hl;rw[zFP,zFP]at h2;exact h2
section
variable {P:Program} {T:Ti} {G:Gl} {n0:Nat}
theorem vBV{K:St->Prop}{Q:Exit->St->Prop}{s:St}(N:List (Np×Nat×Bool))(L:List (Nat×PV))(H:List (Nat×Blk))(Z:List Nat)(k:Nat)(hk:n0<=k)(hZ:∀ r∈Z,r<k)(hN:vSQ s N)(hs:Kept n0 (uJM s N) L H Z k)
 (h:K ⟨sv L,hv H,zv Z,k⟩):vDO (LeS G,n0) K Q .normal s:=vT6 (zK6 hN (hs.le hk hZ)) (by rw[<- zMO,<- zHE,<- zHD]; exact h)
theorem zCK(hT:∀ i x,T i=some x->vA6 P i=x){c:Code}{Q:Exit->St->Prop}{s:St}{ι:Type}(N:List (Np×Nat×Bool))(L:ι->List (Nat×PV))(H:ι->List (Nat×Blk))(Z:List Nat)(k:Nat)(Inv:ι->Prop)(μ:ι->Nat)(i0:ι)(h0:Inv i0)(hk:n0<=k)(hZ:∀ r∈Z,r<k)
 (hN:vSQ s N) (hs:Kept n0 (uJM s N) (L i0) (H i0) Z k)
 (round:∀ i,Inv i->VC P T G n0 c (vDS (fun s'=>∃ i',(Inv i'/\μ i'<μ i)/\Kept n0 s' (L i') (H i') Z k) Q) ⟨sv (L i),hv (H i),zv Z,k⟩) :
 vE2 P G (FnC P G) (FnH P G) (LeS G,n0) c Q s:=by
 unfold vE2;refine zHU L H (fun _=>Z) k Inv μ i0 h0 (zK6 hN (hs.le hk hZ)) fun i hi=>?_
 have:=round i hi;rw[zMO,zHE,zHD]at this
 exact zHF hT (fun e s h=>by
  cases e<;>first | (obtain⟨i',⟨h1,h2⟩,h3⟩:=h; exact⟨i',h1,h2,h3.le hk hZ⟩) | exact h) this
theorem uAK{G:Gl}{n0:Nat}{s:St}{r n:Nat}{b:Blk}(hb:s.h r=some b)(hg:∀ i,b≠vC7 i):LeS G n0 s { s with h:=hset s.h r (some ⟨b.els.take n,b.sz,b.agg⟩) }:=by
 intro E N df a w A κ hn hR
 have get:∀ (i:Nat) (e':PV),(b.els.take n)[i]?=some e'->b.els[i]?=some e':=fun i e' he=>by
  rw[rFN]at he
  split at he
  .exact he
  .cases he
 refine⟨A,κ,⟨hR.hr.retell hb rfl rfl (by simp only[rB1]; omega) (fun i e' he=>⟨e',get i e' he,rfl,rfl,fun j d' hd=>⟨d',hd,fun v h=>h⟩⟩) (fun i e=>absurd e (hg i)),fun r' hr'=>?_,hR.n0,hR.tm,hR.size,hR.df⟩⟩;obtain⟨q1,q2,q3⟩:=hR.fresh r' hr';refine⟨?_,q2,q3⟩;show hset s.h r _ r'=none
 unfold hset;rw[rAM (fun e=>by rw[e,hb]at q1; cases q1)];exact q1
theorem uL2{G:Gl}{n0:Nat}{K:St->Prop}{Q:Exit->St->Prop}{t:Tm}{h:Hp}{z:Fz}{nx:Nat}{b:Blk}(r n:Nat)(hb:h r=some b)(hg:∀ i,b≠vC7 i)
 (hk:vDO (LeS G,n0) K Q .normal ⟨t,hs h r (some ⟨b.els.take n,b.sz,b.agg⟩),z,nx⟩):vDO (LeS G,n0) K Q .normal ⟨t,h,z,nx⟩:=by
 unfold vDO at hk;obtain⟨s',h1,h2⟩:=hk;rw[zFP]at h1;exact vT6 ((uAK (s:=⟨t,h,z,nx⟩) hb hg).trans h1) h2
end
open Go.RowKit
section
variable {P:Program} {G:Gl} {f:FuncId} {args:List PV}
theorem FnM.mono{K K':PV->St->Mp->Prop}{s:St}{μ:Mp}(hk:∀ pv s μ,K pv s μ->K' pv s μ)(h:FnM P G f args K s μ):FnM P G f args K' s μ :=
 ⟨h.1,fun E0 E T w A κ vs h1 h2 h3 h4 g X H h6 h7=>(h.2 E0 E T w A κ vs h1 h2 h3 h4 g X H h6 h7).mono fun e w' ⟨v,pv,A',κ',s',μ',E',g1,g2,gM,g3,X,g5,g6,g7,g8,g9⟩=>⟨v,pv,A',κ',s',μ',E',g1,g2,gM,g3,X,g5,g6,g7,g8,hk _ _ _ g9⟩⟩
theorem uAL{K:PV->St->Mp->Prop}{s:St}{μ:Mp}(μx:Mp)(hF:FnM P G f args K s μ):FnM P G f args (fun pv s' μ''=>∃ μ',μ''=μ'++μx/\K pv s' μ') s (μ++μx):=by
 refine⟨hF.1,fun E0 E T w A κ vs h1 h2 h3 h4 g X H h6 h7=>?_⟩;have nd:=g.nd;rw[rBE,rFT]at nd
 refine(hF.2 E E (fun b=>b∈μ.map (·.1)) w A κ vs h1 h2 h3 h4 ⟨fun p hp=>⟨(g.out p (rB0 _ hp)).1,(g.out p (rB0 _ hp)).2.1,fun _=>rA5.2 ⟨p,hp,rfl⟩⟩,nd.1⟩
  ⟨fun p hp=>X.obj p (rB0 _ hp),fun _ h=>h,fun _ h=>h,fun _ _ _=>rfl,Below.refl _ _,rfl,rfl,fun b hb=>(H.kp.wr b hb).1⟩ H h6 h7).mono
  fun e w' ⟨v,pv,A',κ',s',μ',E',g1,g2,gM,g',X',g5,g6,g7,g8,g9⟩=>⟨v,pv,A',κ',s',μ'++μx,E',g1,g2,gM,⟨fun p hp=>?_,?_⟩,⟨fun p hp=>?_,fun b hb=>X'.s b (X.s b hb),fun b hb=>X'.wr b (X.wr b hb),fun b hb hT=>?_,X.bel.trans X'.bel,X'.w0.trans X.w0,X'.gi.trans X.gi,X.w0S⟩,g5,g6,g7,g8,μ',rfl,g9⟩
 .rcases rAX.1 hp with hp | hp
  .refine⟨(g'.out p hp).1,(g'.out p hp).2.1,fun hS=>?_⟩
   obtain⟨q,hq,e⟩:=rA5.1 ((g'.out p hp).2.2 (X.s _ hS));have:=(g.out q (rB0 _ hq)).2.2;rw[e]at this;exact this hS
  .exact g.out p (rBV _ hp)
 .rw[rBE,rFT]
  refine⟨g'.nd,nd.2.1,fun a ha b hb e=>?_⟩;subst e;obtain⟨p,hp,rfl⟩:=rA5.1 ha;obtain⟨q,hq,e⟩:=rA5.1 hb
  have hS:E.S p.1:=by
   have:=(H.kp.wr _ (X.obj q (rBV _ hq)).1).1;rw[e]at this; exact this
  exact nd.2.2 p.1 ((g'.out p hp).2.2 hS) p.1 (e ▸ rA5.2 ⟨q,hq,rfl⟩) rfl
 .rcases rAX.1 hp with hp | hp
  .exact X'.obj p hp
  .obtain⟨x1,x2,x3⟩:=X.obj p (rBV _ hp)
   refine⟨X'.wr _ x1,(X'.keep p.1 (H.kp.wr _ x1).1 fun hm=>?_).trans x2,x3⟩;exact nd.2.2 p.1 hm p.1 (rA5.2 ⟨p,hp,rfl⟩) rfl
 .refine(X'.keep b (X.s b hb) fun hm=>?_).trans (X.keep b hb hT)
  obtain⟨q,hq,e⟩:=rA5.1 hm;have:=(g.out q (rB0 _ hq)).2.2;rw[e]at this;exact hT (this hb)
def Env.kid(E:Env)(n:Nat)(κ1:Ka)(w:World)(A:Nat->Prop)(ex:Nat->Prop):Env :=
 { E with n0:=n,κ0:=κ1,gh:=false,kw:=w,M:=[],M0:=[],K:=fun b=>b<w.heap.size/\¬ E.Wr b/\¬ ex b,Z:=fun b=>(b<w.heap.size/\¬ E.Wr b/\¬ ex b)/\¬ A b/\¬ E.S b }
section
variable {E:Env} {w w':World} {A A' ex:Nat->Prop} {κ κ1 κ':Ka} {h h':Hp} {z z':Fz} {n gi:Nat} {S Wr:Nat->Prop} {ws w0:World} {M:List Nat}
structure KidOut(E:Env)(w:World)(A:Nat->Prop)(ex S:Nat->Prop)(w':World)(A':Nat->Prop):Prop where
 heap:∀ b,b<w.heap.size->¬ E.Wr b->¬ ex b->w'.heap[b]?=w.heap[b]?
 free:∀ b,b<w.heap.size->¬ E.Wr b->¬ ex b->¬ A b->¬ E.S b->¬ A' b/\¬ S b
 grow:w.heap.size<=w'.heap.size
theorem vM5(H:HR { E.kid n κ1 w A ex with S:=S,Wr:=Wr,ws:=ws,w0:=w0,M:=M,gi:=gi } G w' A' κ' h' z'):KidOut E w A ex S w' A' :=
 ⟨fun b h1 h2 h3=>(H.kp.kk b ⟨h1,h2,h3⟩).2.1,fun b h1 h2 h3 h4 h5=>(H.kp.zk b ⟨⟨h1,h2,h3⟩,h4,h5⟩).2,H.kp.kb.size⟩
theorem HR.backK(H0:HR E G w A κ h z)(hex:∀ b,ex b->¬ A b/\¬ E.S b/\¬ E.K b/\∃ c ty,w.heap[b]?=some (.cells c ty (0,0)))(hg:gi=E.gi)(hA':∀ b,A b->A' b)
 (H:HR { E.kid n κ1 w A ex with S:=S,Wr:=Wr,ws:=ws,w0:=w0,M:=M,gi:=gi } G w' A' κ' h' z') {hd:Hp} (hd1:∀ r b,hd r=some b->h r=some b) (hd2:∀ r b m s c,hd r=some b->κ r=some (m,s,c)->c≠0->¬ ex m) :
 HR { E with S:=S,Wr:=Wr,ws:=ws,w0:=w0,gi:=gi } G w' A' κ hd z:=by
 have O:=vM5 H;have hcell:∀ b o,A b->w'.cell? ⟨b,o,none⟩=w.cell? ⟨b,o,none⟩:=fun b o hA=>cell?_of_heap (O.heap b (H0.alt b hA) (fun hw=>(H0.kp.wr b hw).2 hA) (fun hx=>(hex b hx).1 hA)) o
 have notW:∀ {m},¬ E.S m->¬ E.Wr m:=fun h hw=>h (H0.kp.wr _ hw).1
 refine⟨H.bel,H.hB,H.alt,H.a0,H.a1,H.acell,H0.k0,fun g e hg=>RV.nr_any 3 _ _ rfl (H.glob g e hg),fun r m sz cap hr=>?_,⟨H.kp.base,H.kp.keep,H.kp.wr,fun r b m sz cap hr hk hc hz=>?_,fun D hD=>?_,H0.kp.nd,H0.kp.kb.trans H.kp.kb,fun b hb=>?_,fun b hb=>?_,H0.kp.mk0,fun hg'=>?_⟩,fun r b hr hκ=>?_,fun r r' b b' m m' s s' c c' hne hr hr'=>H0.excl r r' b b' m m' s s' c c' hne (hd1 r b hr) (hd1 r' b' hr')⟩
 .rcases H0.klt r m sz cap hr with h | h
  .exact rAW h
  .exact rA0 (rA4 h O.grow)
 .obtain⟨o1,o2⟩:=H0.kp.own r b m sz cap (hd1 r b hr) hk hc hz
  have hm:m<w.heap.size:=(H0.klt r m sz cap hk).resolve_left hc
  have hA:¬ A m:=by
   obtain⟨m',cap',g1,_,_,g4⟩:=H0.blk r b (hd1 r b hr) (by rw[hk]; simp);rw[hk]at g1; cases g1;obtain⟨c,ty,e1,e2,e3,e4,e5,e6,e7⟩:=g4.resolve_left hc;exact e6 hz
  exact⟨(O.free m hm (notW o1) (hd2 r b m sz cap hr hk hc) hA o1).2,o2⟩
 .obtain⟨g1,⟨g2,g3⟩,g4⟩:=H0.kp.mks D hD
  have hD':D<w.heap.size:=(rA6.1 g4).1
  have hx:¬ ex D:=fun hx=>by
   obtain⟨_,_,_,c,ty,e⟩:=hex D hx;rw[e]at g4; cases g4
  have:=O.free D hD' (notW g2) hx g3 g2;exact⟨g1,⟨this.2,this.1⟩,(O.heap D hD' (notW g2) hx).trans g4⟩
 .obtain⟨k1,k2,k3⟩:=H0.kp.kk b hb
  have hx:¬ ex b:=fun hx=>(hex b hx).2.2.1 hb
  have:=H.kp.kk b ⟨k1,k3,hx⟩;exact⟨this.1,this.2.1.trans k2,this.2.2⟩
 .obtain⟨q1,q2,q3⟩:=H0.kp.zk b hb
  obtain⟨k1,k2,k3⟩:=H0.kp.kk b q1;exact⟨q1,O.free b k1 k3 (fun hx=>(hex b hx).2.2.1 q1) q2 q3⟩
 .obtain⟨g1,g2,g3⟩:=H0.kp.gk hg'
  exact⟨g1,g2,fun b hb=>(g3 b (hd1 0 b hb)).trans (by rw[<- hg])⟩
 .obtain⟨m,cap,g1,g2,g3,g4⟩:=H0.blk r b (hd1 r b hr) hκ
  refine⟨m,cap,g1,g2,g3,?_⟩;by_cases hc:cap=0
  .exact rAW hc
  obtain⟨c,ty,e1,e2,e3,e4,e5,e6,e7⟩:=g4.resolve_left hc;have hm:m<w.heap.size:=(rA6.1 e2).1;have hx:=hd2 r b m b.sz cap hr g1 hc
  have hw:¬ E.Wr m:=fun hw=>by
   cases hz:z r with
   | false=>exact(H0.kp.own r b m b.sz cap (hd1 r b hr) g1 hc hz).1 (H0.kp.wr m hw).1
   | true=>exact(H0.kp.wr m hw).2 (e7 hz)
  refine rA0 ⟨c,ty,e1,(O.heap m hm hw hx).trans e2,e3,e4,fun i e he=>(e5 i e he).mono hA' hcell (fun _ _ h=>h),fun hz=>?_,fun hz=>hA' m (e7 hz)⟩;exact(O.free m hm hw hx (e6 hz) (H0.kp.own r b m b.sz cap (hd1 r b hr) g1 hc hz).1).1
theorem HR.kid0(H:HR E G w A κ h z)(hA0:E.A0=A)(hex:∀ b,ex b->¬ E.K b):HR (E.kid 0 (fun _=>none) w A ex) G w A (fun _=>none) (fun _=>none) (fun _=>false) :=
 ⟨H.bel,H.hB,H.alt,H.a0,H.a1,H.acell,fun r hr=>rfl,fun g e hg=>RV.nr_any 3 _ _ rfl (H.gok g e hg),fun r m sz cap hr=>(by cases hr),
   ⟨H.kp.base,H.kp.keep,H.kp.wr,fun r b m sz cap hr=>(by cases hr),fun D hD=>(by cases hD),rDT,Below.refl _ _,fun b hb=>⟨hb.1,rfl,hb.2.1⟩,fun b hb=>⟨hb.1,hb.2.1,hb.2.2⟩,fun D hD=>(by cases hD),fun hg=>(by cases hg)⟩,fun r b hr=>(by cases hr),fun r r' b b' m m' s s' c c' hne hr=>(by cases hr)⟩
end
theorem vQ8{K0:PV->St->Mp->Prop}{t t0:Tm}{h:Hp}{z:Fz}{nx:Nat}{μ:Mp}(hF:FnM P G f args K0 ⟨t0,fun _=>none,fun _=>false,0⟩ μ)(hnr:∀ a∈args,nr 3 a=true) :
 FnM P G f args (fun pv s' μ'=>s'=⟨t,h,z,nx⟩/\((∃ s0,K0 pv s0 μ')/\nr 3 pv=true\/pv=.any/\∃ pv0 s0,K0 pv0 s0 μ')) ⟨t,h,z,nx⟩ μ:=by
 refine⟨hF.1,fun E0 E T w A κ vs h1 h2 h3 h4 g X H h6 h7=>?_⟩;have hvs:RVs w A (fun _=>none) args vs:=⟨h7.1,fun i d hd=>RV.nr_any 3 _ _ (hnr d (rAS hd)) (h7.2 i d hd)⟩;have nw:∀ p∈μ,E.Wr p.1:=fun p hp=>(X.obj p hp).1
 have Hc:=H.kid0 (ex:=fun _=>False) h3 (fun b hb=>hb.elim)
 refine(hF.2 E0 (E.kid 0 (fun _=>none) w A fun _=>False) T w A _ vs rfl rfl h3 h4 ⟨fun p hp=>⟨fun hk=>hk.2.1 (nw p hp),(g.out p hp).2.1,(g.out p hp).2.2⟩,g.nd⟩ ⟨X.obj,X.s,X.wr,X.keep,X.bel,X.w0,X.gi,X.w0S⟩ Hc (fun r _=>⟨rfl,rfl,rfl⟩) hvs).mono
  fun e w' ⟨v,pv,A',κ',s',μ',E',g1,g2,gM,g3,X',g5,g6,g7,g8,g9⟩=>?_
 obtain⟨S,Wr,ws,w0,M,gi,rfl⟩:=zH9 g2;have hgi:gi=E.gi:=by have:=X'.gi; have:=X.gi; simp_all
 have hA':∀ b,A b->A' b:=fun b hb=>g5.a0 b (by show E.A0 b; rw[h3]; exact hb)
 have HB:=H.backK (ex:=fun _=>False) (fun b hb=>hb.elim) hgi hA' g5 (fun r b hb=>hb) (fun r b m s c _ _ _ hx=>hx);refine⟨v,if nr 3 pv=true then pv else .any,A',κ,⟨t,h,z,nx⟩,μ',{ E with S:=S,Wr:=Wr,ws:=ws,w0:=w0,gi:=gi },g1,rfl,rfl,⟨fun p hp=>⟨fun hK=>?_,(g3.out p hp).2.1,(g3.out p hp).2.2⟩,g3.nd⟩,⟨X'.obj,X'.s,X'.wr,X'.keep,X'.bel,X'.w0,X'.gi,X'.w0S⟩,HB,h6,rAR _,?_,rfl,?_⟩
 .obtain⟨k1,k2,k3⟩:=H.kp.kk _ hK
  exact(g3.out p hp).1 ⟨k1,k3,fun h=>h⟩
 .split
  .rename_i hn; exact RV.nr_any 3 _ _ hn g8
  .exact .any _
 .split
  .rename_i hn; exact rAW ⟨⟨s',g9⟩,hn⟩
  .exact rA0 ⟨rfl,pv,s',g9⟩
end
open Go.RowKit
section
variable {P:Program} {G:Gl} {f:FuncId} {args:List PV}
theorem vX1{w:World}{A:Nat->Prop}{κ:Ka}{c:Array Value}{o:Nat}{e:PV}(he:e.cells=[e]){v:Value}(h1:c[o]?=some v)(h2:RV w A κ e v)(h3:v.oneCell'=true):lies w A κ c o e:=fun j d hd=>by
 rw[he]at hd;cases j with
 | zero=>simp at hd; subst hd; exact⟨v,h1,h2,h3⟩
 | succ j=>simp at hd
theorem uLI {K0:PV->Mp->Prop} {t t0:Tm} {h:Hp} {z:Fz} {nx L n k p:Nat} {μ:Mp} {pre post new:List PV} (hL:L=pre.length+1+post.length)
 (hF:∀ u,FnM P G f args (fun pv s' μ'=>K0 pv μ'/\nr 3 pv=true/\∃ k',k'≠0/\k'<s'.nx/\s'.h 0=some ⟨[.own k' 0 (L+new.length)],1,false⟩/\s'.h k'=some ⟨pre++.raw u::(post++new),1,false⟩/\s'.z 0=false/\s'.z k'=false)
   ⟨t0,hl [(0,⟨[.own 1 0 L],1,false⟩),(1,⟨pre++.raw u::post,1,false⟩)],zl [],2⟩ μ)
 (hargs:∀ a∈args,a=.ptr 0 0 0\/nr 3 a=true) (hmem:.ptr 0 0 0∈args) (hpre:∀ e∈pre++post,nr 3 e=true) (hnew:∀ e∈new,nr 3 e=true)
 (h0:h 0=some ⟨[.own k 0 L],1,false⟩) (hk:h k=some ⟨pre++.own p 0 n::post,1,false⟩) (hk0:k≠0) (hp0:p≠0) (hpk:p≠k) (hz0:z 0=false) (hzk:z k=false) :
 FnM P G f args (fun pv s' μ'=>K0 pv μ'/\s'=⟨t,hset (hset (fun r=>if r=0\/r=k then none else h r) nx (some ⟨pre++.own p 0 n::(post++new),1,false⟩)) 0 (some ⟨[.own nx 0 (L+new.length)],1,false⟩),z,nx+1⟩) ⟨t,h,z,nx⟩ μ:=by
 refine⟨(hF undef).1,fun E0 E T w A κ vs h1 h2 h3 h4 g X H h6 h7=>?_⟩;dsimp only at h1 H h6
 obtain⟨m0,cap0,q0,q1,q2,q3⟩:∃ m cap,κ 0=some (m,1,cap)/\1<=cap/\(∀ e∈([.own k 0 L]:List PV),e.cells.length=1/\e.isAgg=false)/\∃ c ty,E.B<=m/\w.heap[m]?=some (.cells c ty (0,0))/\c.size=cap * 1/\(∀ u∈c.toList,u.oneCell'=true)/\(∀ i e,([.own k 0 L]:List PV)[i]?=some e->lies w A κ c (i * 1) e)/\¬ A m:=by
  obtain⟨i,hi,e⟩:=rA8 hmem;have hv:=h7.2 i _ (rAQ hi);rw[e]at hv;obtain⟨m,sz,cap,_,hκ⟩:=hv.ptr_inv;obtain⟨m,cap,g1,g2,g3,g4⟩:=H.blk 0 _ h0 (by rw[hκ]; simp);have hc:cap≠0:=by simp at g2; omega
  obtain⟨c,ty,e1,e2,e3,e4,e5,e6,e7⟩:=g4.resolve_left hc;exact⟨m,cap,g1,by simpa using g2,g3,c,ty,e1,e2,e3,e4,e5,e6 hz0⟩
 obtain⟨c0,ty0,b1,b2,b3,b4,b5,b6⟩:=q3;obtain⟨v0,r1,r2,r3⟩:=b5 0 _ rfl 0 _ rfl;obtain⟨_,_,_,_,_,rκ,_,_⟩:=r2.own_inv;obtain⟨mk,capk,k1,k2,k3,k4⟩:=H.blk k _ hk (by rw[rκ]; simp);have hck:capk≠0:=by simp at k2; omega
 obtain⟨ck,tyk,d1,d2,d3,d4,d5,d6,d7⟩:=k4.resolve_left hck;obtain⟨u,u1,u2,u3⟩:=d5 pre.length (.own p 0 n) zsm 0 _ rfl;have hm0k:m0≠mk:=H.excl 0 k _ _ m0 mk 1 1 cap0 capk (fun e=>hk0 e.symm) h0 hk q0 k1 zom hck;have o0:=H.kp.own 0 _ m0 1 cap0 h0 q0 zom hz0;have ok:=H.kp.own k _ mk 1 capk hk k1 hck hzk;have klt:k<nx:=rD3 fun e=>by have:=(h6 k e).1; rw[hk]at this; cases this
 have nlt:0<nx:=by omega
 have hgh:E.gh=false:=by
  cases e:E.gh with
  | false=>rfl
  | true =>
    have:=(H.kp.gk e).2.2 _ h0;simp[vC7]at this
 let ex:Nat->Prop:=fun b=>b=m0\/b=mk
 have hex:∀ b,ex b->¬ A b/\¬ E.S b/\¬ E.K b/\∃ c ty,w.heap[b]?=some (.cells c ty (0,0)):=by
  rintro b (rfl | rfl)
  .exact⟨b6,o0.1,o0.2,c0,ty0,b2⟩
  .exact⟨d6 hzk,ok.1,ok.2,ck,tyk,d2⟩
 obtain⟨κ1,hκ1⟩:∃ κ1:Ka,κ1=fun r=>if r=0 then κ 0 else if r=1 then κ k else none:=⟨_,rfl⟩
 have κ10:κ1 0=some (m0,1,cap0):=by rw[hκ1]; simpa using q0
 have κ11:κ1 1=some (mk,1,capk):=by rw[hκ1]; simpa using k1
 have κ12:∀ r,2<=r->κ1 r=none:=fun r hr=>by rw[hκ1]; simp only[rAM (show ¬ r=0 by omega),rAM (show ¬ r=1 by omega)]
 let B0:Blk:=⟨[.own 1 0 L],1,false⟩
 let B1:Blk:=⟨pre++.raw u::post,1,false⟩
 have hin:∀ r b,hl [(0,B0),(1,B1)] r=some b->(r=0/\b=B0)\/(r=1/\b=B1):=fun r b hb=>by
  have:=zDY hb;simp at this;exact this
 have Hc:HR (E.kid 2 κ1 w A ex) G w A κ1 (hl [(0,B0),(1,B1)]) (zl []):=by
  refine⟨H.bel,H.hB,H.alt,H.a0,H.a1,H.acell,fun r hr=>rfl,fun g e hg=>RV.nr_any 3 _ _ rfl (H.gok g e hg),fun r m sz cap hr=>?_,
   ⟨H.kp.base,H.kp.keep,H.kp.wr,fun r b m sz cap hr hκ hc hz=>?_,fun D hD=>(by cases hD),rDT,Below.refl _ _,fun b hb=>⟨hb.1,rfl,hb.2.1⟩,fun b hb=>⟨hb.1,hb.2.1,hb.2.2⟩,fun D hD=>(by cases hD),fun hg=>(by cases hg)⟩,fun r b hr hκ=>?_,fun r r' b b' m m' s s' c c' hne hr hr' e1 e2 _ _=>?_⟩
  .rcases rCP r 2 with hr2 | hr2
   .obtain rfl | rfl:r=0\/r=1:=by omega
    .rw[κ10]at hr; cases hr; exact H.klt 0 _ _ _ q0
    .rw[κ11]at hr; cases hr; exact H.klt k _ _ _ k1
   .rw[κ12 r hr2]at hr; cases hr
  .rcases hin r b hr with⟨rfl,rfl⟩ | ⟨rfl,rfl⟩
   .rw[κ10]at hκ; cases hκ; exact⟨o0.1,fun hK=>hK.2.2 (rAW rfl)⟩
   .rw[κ11]at hκ; cases hκ; exact⟨ok.1,fun hK=>hK.2.2 (rA0 rfl)⟩
  .rcases hin r b hr with⟨rfl,rfl⟩ | ⟨rfl,rfl⟩
   .refine⟨m0,cap0,κ10,q1,fun e he=>by simp[B0]at he; subst he; exact⟨rfl,rfl⟩,rA0 ⟨c0,ty0,b1,b2,b3,b4,fun i e he=>?_,fun _=>b6,fun hz=>(by cases hz)⟩⟩
    cases i with
    | zero =>
      simp[B0]at he; subst he;refine vX1 rfl r1 ?_ r3;obtain⟨m,sz,cap,a,e1,e2,e3,e4⟩:=r2.own_inv;rw[e1];exact .own 1 0 L m sz cap a (by rw[hκ1]; simpa using e2) e3 e4
    | succ i=>simp[B0]at he
   .refine⟨mk,capk,κ11,by simpa [B1]using k2,fun e he=>?_,rA0 ⟨ck,tyk,d1,d2,d3,d4,fun i e he=>?_,fun _=>d6 hzk,fun hz=>(by cases hz)⟩⟩
    .simp only[B1,rAX,rBA]at he
     rcases he with he | rfl | he
     .exact k3 e (by simp[he])
     .exact⟨rfl,rfl⟩
     .exact k3 e (by simp[he])
    .by_cases hi:i=pre.length
     .subst hi
      simp[B1]at he; subst he;exact vX1 rfl u1 (.data _ _ (.raw u)) u3
     .have he':(pre++.own p 0 n::post)[i]?=some e/\nr 3 e=true:=by
       simp only[B1]at he;rw[List.getElem?_append]at he ⊢
       split at he
       .rename_i hlt
        rw[rAU hlt];exact⟨he,hpre e (rB0 _ (rAS he))⟩
       .rename_i hge
        rw[rAM hge];obtain⟨j,hj⟩:∃ j,i - pre.length=j+1:=⟨i - pre.length - 1,zom⟩;rw[hj]at he ⊢;simp only[List.getElem?_cons_succ]at he ⊢;exact⟨he,hpre e (rBV _ (rAS he))⟩
      intro j x hx;obtain⟨v,p1,p2,p3⟩:=d5 i e he'.1 j x hx;exact⟨v,p1,RV.nr_any 3 _ _ (zOC he'.2 hx) p2,p3⟩
  .rcases hin r b hr with⟨rfl,rfl⟩ | ⟨rfl,rfl⟩<;>rcases hin r' b' hr' with⟨rfl,rfl⟩ | ⟨rfl,rfl⟩
   .exact absurd rfl hne
   .rw[κ10]at e1; rw[κ11]at e2; cases e1; cases e2; exact hm0k
   .rw[κ11]at e1; rw[κ10]at e2; cases e1; cases e2; exact hm0k.symm
   .exact absurd rfl hne
 have hvs:RVs w A κ1 args vs:=⟨h7.1,fun i d hd=>by
  rcases hargs d (rAS hd) with rfl | hn
  .obtain⟨m,sz,cap,e1,e2⟩:=(h7.2 i _ hd).ptr_inv
   rw[e1];exact .ptr 0 0 0 m sz cap (by rw[hκ1]; simpa using e2)
  .exact RV.nr_any 3 _ _ hn (h7.2 i d hd)⟩
 have nw:∀ p∈μ,E.Wr p.1:=fun p hp=>(X.obj p hp).1
 have hfr:vDA 2 κ1 (hl [(0,B0),(1,B1)]) (zl []):=fun r hr=>by
  refine⟨?_,rfl,κ12 r hr⟩;cases hb:hl [(0,B0),(1,B1)] r with
  | none=>rfl
  | some b=>rcases hin r b hb with⟨rfl,_⟩ | ⟨rfl,_⟩<;>omega
 refine((hF u).2 E0 (E.kid 2 κ1 w A ex) T w A κ1 vs rfl rfl h3 h4 ⟨fun p hp=>⟨fun hk=>hk.2.1 (nw p hp),(g.out p hp).2.1,(g.out p hp).2.2⟩,g.nd⟩ ⟨X.obj,X.s,X.wr,X.keep,X.bel,X.w0,X.gi,X.w0S⟩ Hc hfr hvs).mono
  fun e w' ⟨v,pv,A',κ',s',μ',E',g1,g2,gM,g3,X',g5,g6,g7,g8,gK,gn,k',n1,n2,n3,n4,n5,n6⟩=>?_
 obtain⟨S,Wr,ws,w0,M,gi,rfl⟩:=zH9 g2;have hgi:gi=E.gi:=by have:=X'.gi; have:=X.gi; simp_all
 have hA':∀ b,A b->A' b:=fun b hb=>g5.a0 b (by show E.A0 b; rw[h3]; exact hb)
 have hd1:∀ r b,(if r=0\/r=k then none else h r)=some b->h r=some b:=fun r b hb=>by
  split at hb
  .cases hb
  .exact hb
 have HB:=H.backK hex hgi hA' g5 (hd:=fun r=>if r=0\/r=k then none else h r) hd1 (fun r b m s c hb hκ hc hx=>by
  split at hb
  .cases hb
  .rename_i hne
   rcases hx with rfl | rfl
   .exact H.excl r 0 _ _ _ _ _ _ _ _ (fun e=>hne (rAW e)) hb h0 hκ q0 hc zom rfl
   .exact H.excl r k _ _ _ _ _ _ _ _ (fun e=>hne (rA0 e)) hb hk hκ k1 hc hck rfl)
 have κ'0:κ' 0=some (m0,1,cap0):=by rw[g5.k0 0 (by show 0<2; omega)]; exact κ10
 obtain⟨m0',cap0',w1,w2,w3,w4⟩:=g5.blk 0 _ n3 (by rw[κ'0]; simp);rw[κ'0]at w1; cases w1;obtain⟨c0',ty0',x1,x2,x3,x4,x5,x6,x7⟩:=w4.resolve_left zom;obtain⟨v0',y1,y2,y3⟩:=x5 0 _ rfl 0 _ rfl;obtain⟨_,_,_,_,_,yκ,_,_⟩:=y2.own_inv;obtain⟨m',cap',z1,z2,z3,z4⟩:=g5.blk k' _ n4 (by rw[yκ]; simp);have hc':cap'≠0:=by simp at z2; omega
 obtain⟨c',ty',t1,t2,t3,t4,t5,t6,t7⟩:=z4.resolve_left hc';have O:=vM5 g5;have own':=g5.kp.own k' _ m' 1 cap' n4 z1 hc' n6;have own0:=g5.kp.own 0 _ m0 1 cap0 n3 κ'0 zom n5;have hm0':m0≠m':=g5.excl 0 k' _ _ m0 m' 1 1 cap0 cap' (fun e=>n1 e.symm) n3 n4 κ'0 z1 zom hc';have nxκ:κ nx=none:=(h6 nx (rAR _)).2.2
 have mem:∀ m,(∃ r b s c,(if r=0\/r=k then none else h r)=some b/\κ r=some (m,s,c)/\c≠0)->m<w.heap.size/\¬ E.Wr m/\¬ ex m:=by
  rintro m ⟨r,b,s,c,hb,hκ,hc⟩
  split at hb
  .cases hb
  rename_i hne
  refine⟨(H.klt r m s c hκ).resolve_left hc,fun hw=>?_,?_⟩
  .obtain⟨m',cap',g1,_,_,g4⟩:=H.blk r b hb (by rw[hκ]; simp)
   rw[hκ]at g1; cases g1;obtain⟨c,ty,e1,e2,e3,e4,e5,e6,e7⟩:=g4.resolve_left hc;cases hz:z r with
   | false=>exact(H.kp.own r b m _ _ hb hκ hc hz).1 (H.kp.wr m hw).1
   | true=>exact(H.kp.wr m hw).2 (e7 hz)
  .rintro(rfl | rfl)
   .exact H.excl r 0 _ _ _ _ _ _ _ _ (fun e=>hne (rAW e)) hb h0 hκ q0 hc zom rfl
   .exact H.excl r k _ _ _ _ _ _ _ _ (fun e=>hne (rA0 e)) hb hk hκ k1 hc hck rfl
 have notm':∀ m,m<w.heap.size/\¬ E.Wr m/\¬ ex m->m'≠m:=fun m hm e=>own'.2 (e ▸ hm)
 have low:∀ r,r≠nx->vDM κ nx (m',1,cap') r=κ r:=fun r hr=>zAO κ _ hr
 have up:∀ {d:PV} {v:Value},nr 3 d=true->RV w' A' κ' d v->RV w' A' (vDM κ nx (m',1,cap')) d v:=fun hn hv=>RV.nr_any 3 _ _ hn hv
 have pown:RV w' A' κ (.own p 0 n) u:=by
  obtain⟨m,sz,cap,a,e1,e2,e3,e4⟩:=u2.own_inv;rw[e1];exact .own p 0 n m sz cap a e2 e3 e4
 have HD:=HB.adopt (key:=nx) (sz:=1) (cap:=cap') (agg:=false) (els:=pre++.own p 0 n::(post++new)) (by rw[show({ E with S:=S,Wr:=Wr,ws:=ws,w0:=w0,gi:=gi }:Env).n0=nx from h1]; exact rAR _) nxκ (h6 nx (rAR _)).2.1 t2 t1 ⟨own'.1,fun hK=>?_⟩ (t6 n6) (fun r b m3 s3 c3 hr hκr hc3 e=>?_) t3 (by simpa using z2) (fun e he=>?_) t4 (fun i e he j d hd=>?_)
 rotate_left
 .obtain⟨a1,a2,a3⟩:=H.kp.kk m' hK
  refine own'.2 ⟨a1,a3,?_⟩
  rintro(e | e)
  .exact hm0' e.symm
  .exact ok.2 (e ▸ hK)
 .exact notm' _ (mem m3 ⟨r,b,s3,c3,hr,hκr,hc3⟩) e.symm
 .simp only[rAX,rBA]at he
  rcases he with he | rfl | he | he
  .exact z3 e (by simp[he])
  .exact⟨rfl,rfl⟩
  .exact z3 e (by simp[he])
  .exact z3 e (by simp[he])
 .by_cases hi:i=pre.length
  .subst hi
   simp at he; subst he;obtain⟨v1,p1,p2,p3⟩:=t5 pre.length (.raw u) zsm 0 _ rfl;have e1:=p2.raw_inv;rw[e1]at p1 p3;cases j with
   | zero=>simp[PV.cells]at hd; subst hd; exact⟨u,p1,pown,p3⟩
   | succ j=>simp[PV.cells]at hd
  .have he':(pre++.raw u::(post++new))[i]?=some e/\nr 3 e=true:=by
    rw[List.getElem?_append]at he ⊢
    split at he
    .rename_i hlt
     rw[rAU hlt];exact⟨he,hpre e (rB0 _ (rAS he))⟩
    .rename_i hge
     rw[rAM hge];obtain⟨j,hj⟩:∃ j,i - pre.length=j+1:=⟨i - pre.length - 1,zom⟩;rw[hj]at he ⊢;simp only[List.getElem?_cons_succ]at he ⊢;refine⟨he,?_⟩;rcases rAX.1 (rAS he) with h | h
     .exact hpre e (rBV _ h)
     .exact hnew e h
   obtain⟨v1,p1,p2,p3⟩:=t5 i e he'.1 j d hd;exact⟨v1,p1,RV.nr_any 3 _ _ (zOC he'.2 hd) p2,p3⟩
 have n0nx:(0:Nat)≠nx:=by omega
 have κ30:vDM κ nx (m',1,cap') 0=some (m0,1,cap0):=by rw[low 0 n0nx]; exact q0
 have HF:HR { E with S:=S,Wr:=Wr,ws:=ws,w0:=w0,gi:=gi } G w' A' (vDM κ nx (m',1,cap')) (hset (hset (fun r=>if r=0\/r=k then none else h r) nx (some ⟨pre++.own p 0 n::(post++new),1,false⟩)) 0 (some ⟨[.own nx 0 (L+new.length)],1,false⟩)) z:=by
  refine HD.addL (rs:=[0]) (fun r b hb=>?_) (fun r r' m m' s s' c c' hr hr' hne=>?_)
  .by_cases hr:r=0
   .subst hr
    simp only[hset,rCI]at hb;cases hb
    refine rA0 ⟨zsm,hz0,fun _ hg=>?_,fun _=>⟨m0,cap0,κ30,by simpa using q1,fun e he=>by simp at he; subst he; exact⟨rfl,rfl⟩,rA0 ⟨c0',ty0',x1,x2,x3,x4,fun i e he=>?_,x6 n5⟩⟩,fun m sz cap hκ hc=>?_⟩
    .rw[show({ E with S:=S,Wr:=Wr,ws:=ws,w0:=w0,gi:=gi }:Env).gh=false from hgh]at hg; cases hg
    .cases i with
     | zero =>
       simp at he; subst he;refine vX1 rfl y1 ?_ y3;obtain⟨m,sz,cap,a,e1,e2,e3,e4⟩:=y2.own_inv;rw[z1]at e2;cases e2
       rw[e1];exact .own nx 0 _ m' 1 cap' a (zAZ ..) e3 e4
     | succ i=>simp at he
    .rw[κ30]at hκ; cases hκ
     refine⟨own0.1,o0.2,fun r' b' m3 s3 c3 hr' hκ' hc3=>?_⟩;simp only[hset]at hr'
     split at hr'
     .rename_i e
      subst e;rw[zAZ]at hκ'; cases hκ';exact hm0'.symm
     .rename_i hne
      rw[low r' hne]at hκ';intro e;subst e;exact(mem m3 ⟨r',b',s3,c3,hr',hκ',hc3⟩).2.2 (rAW rfl)
   .refine rAW ⟨by simpa using hr,?_⟩
    simp only[hset,rAM hr]at hb;exact hb
  .simp at hr hr'
   exact absurd (hr.trans hr'.symm) hne
 refine⟨v,pv,A',vDM κ nx (m',1,cap'),⟨t,_,z,nx+1⟩,μ',{ E with S:=S,Wr:=Wr,ws:=ws,w0:=w0,gi:=gi },g1,rfl,rfl,⟨fun p hp=>⟨fun hK=>?_,(g3.out p hp).2.1,(g3.out p hp).2.2⟩,g3.nd⟩,⟨X'.obj,X'.s,X'.wr,X'.keep,X'.bel,X'.w0,X'.gi,X'.w0S⟩,HF,fun r hr=>?_,rC3 _,up gn g8,gK,rfl⟩
 .obtain⟨a1,a2,a3⟩:=H.kp.kk _ hK
  refine(g3.out p hp).1 ⟨a1,a3,?_⟩
  rintro(e | e)
  .exact o0.2 (e ▸ hK)
  .exact ok.2 (e ▸ hK)
 .have hr':nx+1<=r:=hr
  obtain⟨f1,f2,f3⟩:=h6 r (by show nx<=r; omega);refine⟨?_,f2,by rw[low r zom]; exact f3⟩;show hset (hset (fun r=>if r=0\/r=k then none else h r) nx _) 0 _ r=none
  unfold hset;rw[rAM (show ¬ r=0 by omega),rAM (show ¬ r=nx by omega)];show(if r=0\/r=k then none else h r)=none
  rw[rAM (show ¬ (r=0\/r=k) by omega)];exact f1
theorem uLJ{K0:PV->Mp->Prop}{t t0:Tm}{h:Hp}{z:Fz}{nx:Nat}{μ:Mp}{new:List PV}
 (hF:FnM P G f args (fun pv s' μ'=>K0 pv μ'/\nr 3 pv=true/\∃ k',k'≠0/\k'<s'.nx/\s'.h 0=some ⟨[.own k' 0 new.length],1,false⟩/\s'.h k'=some ⟨new,1,false⟩/\s'.z 0=false/\s'.z k'=false)
   ⟨t0,hl [(0,⟨[.own 1 0 0],1,false⟩),(1,⟨[],1,false⟩)],zl [],2⟩ μ)
 (hargs:∀ a∈args,a=.ptr 0 0 0\/nr 3 a=true) (hmem:.ptr 0 0 0∈args) (hnew:∀ e∈new,nr 3 e=true) (hne:new≠[])
 (h0:h 0=some ⟨[.nilsl],1,false⟩) (hz0:z 0=false) :
 FnM P G f args (fun pv s' μ'=>K0 pv μ'/\s'=⟨t,hset (hset (fun r=>if r=0 then none else h r) nx (some ⟨new,1,false⟩)) 0 (some ⟨[.own nx 0 new.length],1,false⟩),z,nx+1⟩) ⟨t,h,z,nx⟩ μ:=by
 refine⟨hF.1,fun E0 E T w A κ vs h1 h2 h3 h4 g X H h6 h7=>?_⟩;dsimp only at h1 H h6
 obtain⟨m0,cap0,q0,q1,q2,q3⟩:∃ m cap,κ 0=some (m,1,cap)/\1<=cap/\(∀ e∈([.nilsl]:List PV),e.cells.length=1/\e.isAgg=false)/\∃ c ty,E.B<=m/\w.heap[m]?=some (.cells c ty (0,0))/\c.size=cap * 1/\(∀ u∈c.toList,u.oneCell'=true)/\(∀ i e,([.nilsl]:List PV)[i]?=some e->lies w A κ c (i * 1) e)/\¬ A m:=by
  obtain⟨i,hi,e⟩:=rA8 hmem;have hv:=h7.2 i _ (rAQ hi);rw[e]at hv;obtain⟨m,sz,cap,_,hκ⟩:=hv.ptr_inv;obtain⟨m,cap,g1,g2,g3,g4⟩:=H.blk 0 _ h0 (by rw[hκ]; simp);have hc:cap≠0:=by simp at g2; omega
  obtain⟨c,ty,e1,e2,e3,e4,e5,e6,e7⟩:=g4.resolve_left hc;exact⟨m,cap,g1,by simpa using g2,g3,c,ty,e1,e2,e3,e4,e5,e6 hz0⟩
 obtain⟨c0,ty0,b1,b2,b3,b4,b5,b6⟩:=q3;obtain⟨v0,r1,r2,r3⟩:=b5 0 _ rfl 0 _ rfl;have o0:=H.kp.own 0 _ m0 1 cap0 h0 q0 zom hz0;have nlt:0<nx:=rD3 fun e=>by have:=(h6 0 e).1; rw[h0]at this; cases this
 have hgh:E.gh=false:=by
  cases e:E.gh with
  | false=>rfl
  | true =>
    have:=(H.kp.gk e).2.2 _ h0;simp[vC7]at this
 let ex:Nat->Prop:=fun b=>b=m0
 have hex:∀ b,ex b->¬ A b/\¬ E.S b/\¬ E.K b/\∃ c ty,w.heap[b]?=some (.cells c ty (0,0)):=by
  intro b hb;rw[show b=m0 from hb];exact⟨b6,o0.1,o0.2,c0,ty0,b2⟩
 obtain⟨κ1,hκ1⟩:∃ κ1:Ka,κ1=fun r=>if r=0 then κ 0 else if r=1 then some (0,1,0) else none:=⟨_,rfl⟩
 have κ10:κ1 0=some (m0,1,cap0):=by rw[hκ1]; simpa using q0
 have κ11:κ1 1=some (0,1,0):=by rw[hκ1]; simp
 have κ12:∀ r,2<=r->κ1 r=none:=fun r hr=>by rw[hκ1]; simp only[rAM (show ¬ r=0 by omega),rAM (show ¬ r=1 by omega)]
 let B0:Blk:=⟨[.own 1 0 0],1,false⟩
 let B1:Blk:=⟨[],1,false⟩
 have hin:∀ r b,hl [(0,B0),(1,B1)] r=some b->(r=0/\b=B0)\/(r=1/\b=B1):=fun r b hb=>by
  have:=zDY hb;simp at this;exact this
 have Hc:HR (E.kid 2 κ1 w A ex) G w A κ1 (hl [(0,B0),(1,B1)]) (zl []):=by
  refine⟨H.bel,H.hB,H.alt,H.a0,H.a1,H.acell,fun r hr=>rfl,fun g e hg=>RV.nr_any 3 _ _ rfl (H.gok g e hg),fun r m sz cap hr=>?_,
   ⟨H.kp.base,H.kp.keep,H.kp.wr,fun r b m sz cap hr hκ hc hz=>?_,fun D hD=>(by cases hD),rDT,Below.refl _ _,fun b hb=>⟨hb.1,rfl,hb.2.1⟩,fun b hb=>⟨hb.1,hb.2.1,hb.2.2⟩,fun D hD=>(by cases hD),fun hg=>(by cases hg)⟩,fun r b hr hκ=>?_,fun r r' b b' m m' s s' c c' hne hr hr' e1 e2 hc hc'=>?_⟩
  .rcases rCP r 2 with hr2 | hr2
   .obtain rfl | rfl:r=0\/r=1:=by omega
    .rw[κ10]at hr; cases hr; exact H.klt 0 _ _ _ q0
    .rw[κ11]at hr; cases hr; exact rAW rfl
   .rw[κ12 r hr2]at hr; cases hr
  .rcases hin r b hr with⟨rfl,rfl⟩ | ⟨rfl,rfl⟩
   .rw[κ10]at hκ; cases hκ; exact⟨o0.1,fun hK=>hK.2.2 rfl⟩
   .rw[κ11]at hκ; cases hκ; exact absurd rfl hc
  .rcases hin r b hr with⟨rfl,rfl⟩ | ⟨rfl,rfl⟩
   .refine⟨m0,cap0,κ10,q1,fun e he=>by simp[B0]at he; subst he; exact⟨rfl,rfl⟩,rA0 ⟨c0,ty0,b1,b2,b3,b4,fun i e he=>?_,fun _=>b6,fun hz=>(by cases hz)⟩⟩
    cases i with
    | zero =>
      simp[B0]at he; subst he;refine vX1 rfl r1 ?_ r3;rw[r2.nilsl_inv];exact zEO κ11 none
    | succ i=>simp[B0]at he
   .exact⟨0,0,κ11,rAR _,(fun e he=>by cases he),rAW rfl⟩
  .rcases hin r b hr with⟨rfl,rfl⟩ | ⟨rfl,rfl⟩<;>rcases hin r' b' hr' with⟨rfl,rfl⟩ | ⟨rfl,rfl⟩
   .exact absurd rfl hne
   .rw[κ11]at e2; cases e2; exact absurd rfl hc'
   .rw[κ11]at e1; cases e1; exact absurd rfl hc
   .exact absurd rfl hne
 have hvs:RVs w A κ1 args vs:=⟨h7.1,fun i d hd=>by
  rcases hargs d (rAS hd) with rfl | hn
  .obtain⟨m,sz,cap,e1,e2⟩:=(h7.2 i _ hd).ptr_inv
   rw[e1];exact .ptr 0 0 0 m sz cap (by rw[hκ1]; simpa using e2)
  .exact RV.nr_any 3 _ _ hn (h7.2 i d hd)⟩
 have nw:∀ p∈μ,E.Wr p.1:=fun p hp=>(X.obj p hp).1
 have hfr:vDA 2 κ1 (hl [(0,B0),(1,B1)]) (zl []):=fun r hr=>by
  refine⟨?_,rfl,κ12 r hr⟩;cases hb:hl [(0,B0),(1,B1)] r with
  | none=>rfl
  | some b=>rcases hin r b hb with⟨rfl,_⟩ | ⟨rfl,_⟩<;>omega
 refine(hF.2 E0 (E.kid 2 κ1 w A ex) T w A κ1 vs rfl rfl h3 h4 ⟨fun p hp=>⟨fun hk=>hk.2.1 (nw p hp),(g.out p hp).2.1,(g.out p hp).2.2⟩,g.nd⟩ ⟨X.obj,X.s,X.wr,X.keep,X.bel,X.w0,X.gi,X.w0S⟩ Hc hfr hvs).mono
  fun e w' ⟨v,pv,A',κ',s',μ',E',g1,g2,gM,g3,X',g5,g6,g7,g8,gK,gn,k',n1,n2,n3,n4,n5,n6⟩=>?_
 obtain⟨S,Wr,ws,w0,M,gi,rfl⟩:=zH9 g2;have hgi:gi=E.gi:=by have:=X'.gi; have:=X.gi; simp_all
 have hA':∀ b,A b->A' b:=fun b hb=>g5.a0 b (by show E.A0 b; rw[h3]; exact hb)
 have hd1:∀ r b,(if r=0 then none else h r)=some b->h r=some b:=fun r b hb=>by
  split at hb
  .cases hb
  .exact hb
 have HB:=H.backK hex hgi hA' g5 (hd:=fun r=>if r=0 then none else h r) hd1 (fun r b m s c hb hκ hc hx=>by
  split at hb
  .cases hb
  .rename_i hne
   exact H.excl r 0 _ _ _ _ _ _ _ _ hne hb h0 hκ q0 hc zom hx)
 have κ'0:κ' 0=some (m0,1,cap0):=by rw[g5.k0 0 (by show 0<2; omega)]; exact κ10
 obtain⟨m0',cap0',w1,w2,w3,w4⟩:=g5.blk 0 _ n3 (by rw[κ'0]; simp);rw[κ'0]at w1; cases w1;obtain⟨c0',ty0',x1,x2,x3,x4,x5,x6,x7⟩:=w4.resolve_left zom;obtain⟨v0',y1,y2,y3⟩:=x5 0 _ rfl 0 _ rfl;obtain⟨_,_,_,_,_,yκ,_,_⟩:=y2.own_inv;obtain⟨m',cap',z1,z2,z3,z4⟩:=g5.blk k' _ n4 (by rw[yκ]; simp);have hnl:0<new.length:=rDO.2 hne;have hc':cap'≠0:=by simp at z2; omega
 obtain⟨c',ty',t1,t2,t3,t4,t5,t6,t7⟩:=z4.resolve_left hc';have O:=vM5 g5;have own':=g5.kp.own k' _ m' 1 cap' n4 z1 hc' n6;have own0:=g5.kp.own 0 _ m0 1 cap0 n3 κ'0 zom n5;have hm0':m0≠m':=g5.excl 0 k' _ _ m0 m' 1 1 cap0 cap' (fun e=>n1 e.symm) n3 n4 κ'0 z1 zom hc';have nxκ:κ nx=none:=(h6 nx (rAR _)).2.2
 have mem:∀ m,(∃ r b s c,(if r=0 then none else h r)=some b/\κ r=some (m,s,c)/\c≠0)->m<w.heap.size/\¬ E.Wr m/\¬ ex m:=by
  rintro m ⟨r,b,s,c,hb,hκ,hc⟩
  split at hb
  .cases hb
  rename_i hne
  refine⟨(H.klt r m s c hκ).resolve_left hc,fun hw=>?_,?_⟩
  .obtain⟨m',cap',g1,_,_,g4⟩:=H.blk r b hb (by rw[hκ]; simp)
   rw[hκ]at g1; cases g1;obtain⟨c,ty,e1,e2,e3,e4,e5,e6,e7⟩:=g4.resolve_left hc;cases hz:z r with
   | false=>exact(H.kp.own r b m _ _ hb hκ hc hz).1 (H.kp.wr m hw).1
   | true=>exact(H.kp.wr m hw).2 (e7 hz)
  .intro hx
   exact H.excl r 0 _ _ _ _ _ _ _ _ hne hb h0 hκ q0 hc zom hx
 have notm':∀ m,m<w.heap.size/\¬ E.Wr m/\¬ ex m->m'≠m:=fun m hm e=>own'.2 (e ▸ hm)
 have low:∀ r,r≠nx->vDM κ nx (m',1,cap') r=κ r:=fun r hr=>zAO κ _ hr
 have up:∀ {d:PV} {v:Value},nr 3 d=true->RV w' A' κ' d v->RV w' A' (vDM κ nx (m',1,cap')) d v:=fun hn hv=>RV.nr_any 3 _ _ hn hv
 have HD:=HB.adopt (key:=nx) (sz:=1) (cap:=cap') (agg:=false) (els:=new) (by rw[show({ E with S:=S,Wr:=Wr,ws:=ws,w0:=w0,gi:=gi }:Env).n0=nx from h1]; exact rAR _) nxκ (h6 nx (rAR _)).2.1 t2 t1 ⟨own'.1,fun hK=>?_⟩ (t6 n6) (fun r b m3 s3 c3 hr hκr hc3 e=>?_) t3 z2 z3 t4 (fun i e he j d hd=>?_)
 rotate_left
 .obtain⟨a1,a2,a3⟩:=H.kp.kk m' hK
  exact own'.2 ⟨a1,a3,fun e=>hm0' e.symm⟩
 .exact notm' _ (mem m3 ⟨r,b,s3,c3,hr,hκr,hc3⟩) e.symm
 .obtain⟨v1,p1,p2,p3⟩:=t5 i e he j d hd
  exact⟨v1,p1,RV.nr_any 3 _ _ (zOC (hnew e (rAS he)) hd) p2,p3⟩
 have n0nx:(0:Nat)≠nx:=by omega
 have κ30:vDM κ nx (m',1,cap') 0=some (m0,1,cap0):=by rw[low 0 n0nx]; exact q0
 have HF:HR { E with S:=S,Wr:=Wr,ws:=ws,w0:=w0,gi:=gi } G w' A' (vDM κ nx (m',1,cap')) (hset (hset (fun r=>if r=0 then none else h r) nx (some ⟨new,1,false⟩)) 0 (some ⟨[.own nx 0 new.length],1,false⟩)) z:=by
  refine HD.addL (rs:=[0]) (fun r b hb=>?_) (fun r r' m m' s s' c c' hr hr' hne=>?_)
  .by_cases hr:r=0
   .subst hr
    simp only[hset,rCI]at hb;cases hb
    refine rA0 ⟨zsm,hz0,fun _ hg=>?_,fun _=>⟨m0,cap0,κ30,by simpa using q1,fun e he=>by simp at he; subst he; exact⟨rfl,rfl⟩,rA0 ⟨c0',ty0',x1,x2,x3,x4,fun i e he=>?_,x6 n5⟩⟩,fun m sz cap hκ hc=>?_⟩
    .rw[show({ E with S:=S,Wr:=Wr,ws:=ws,w0:=w0,gi:=gi }:Env).gh=false from hgh]at hg; cases hg
    .cases i with
     | zero =>
       simp at he; subst he;refine vX1 rfl y1 ?_ y3;obtain⟨m,sz,cap,a,e1,e2,e3,e4⟩:=y2.own_inv;rw[z1]at e2;cases e2
       rw[e1];exact .own nx 0 _ m' 1 cap' a (zAZ ..) e3 e4
     | succ i=>simp at he
    .rw[κ30]at hκ; cases hκ
     refine⟨own0.1,o0.2,fun r' b' m3 s3 c3 hr' hκ' hc3=>?_⟩;simp only[hset]at hr'
     split at hr'
     .rename_i e
      subst e;rw[zAZ]at hκ'; cases hκ';exact hm0'.symm
     .rename_i hne
      rw[low r' hne]at hκ';intro e;subst e;exact(mem m3 ⟨r',b',s3,c3,hr',hκ',hc3⟩).2.2 rfl
   .refine rAW ⟨by simpa using hr,?_⟩
    simp only[hset,rAM hr]at hb ⊢;exact hb
  .simp at hr hr'
   exact absurd (hr.trans hr'.symm) hne
 refine⟨v,pv,A',vDM κ nx (m',1,cap'),⟨t,_,z,nx+1⟩,μ',{ E with S:=S,Wr:=Wr,ws:=ws,w0:=w0,gi:=gi },g1,rfl,rfl,⟨fun p hp=>⟨fun hK=>?_,(g3.out p hp).2.1,(g3.out p hp).2.2⟩,g3.nd⟩,⟨X'.obj,X'.s,X'.wr,X'.keep,X'.bel,X'.w0,X'.gi,X'.w0S⟩,HF,fun r hr=>?_,rC3 _,up gn g8,gK,rfl⟩
 .obtain⟨a1,a2,a3⟩:=H.kp.kk _ hK
  exact(g3.out p hp).1 ⟨a1,a3,fun e=>o0.2 (e ▸ hK)⟩
 .have hr':nx+1<=r:=hr
  obtain⟨f1,f2,f3⟩:=h6 r (by show nx<=r; omega);refine⟨?_,f2,by rw[low r zom]; exact f3⟩;show hset (hset (fun r=>if r=0 then none else h r) nx _) 0 _ r=none
  unfold hset;rw[rAM (show ¬ r=0 by omega),rAM (show ¬ r=nx by omega)];show(if r=0 then none else h r)=none
  rw[rAM (show ¬ r=0 by omega)];exact f1
theorem zQA{ds:List PV}{d:PV}(h:FnH P G f ds (fun v s=>gives s.h v d) (start ds)):FnC P G f ds (.data d):=by
 refine⟨h.1,fun w A vs hA hg hd=>?_⟩;have:=h.2 { w0:=w,w1:=w,B:=w.heap.size,A0:=A,n0:=0,κ0:=fun _=>none,ws:=w,kw:=w } w A (fun _=>none) vs rfl rfl rfl rfl (vPW hA hg) (fun r _=>⟨rfl,rfl,rfl⟩) ⟨hd.1,fun i d hi=>.data _ _ (hd.2 i d hi)⟩;refine this.mono fun e w' ⟨v,pv,A',κ',s',h1,h2,_,_,h3,ks,h4⟩=>⟨v,h1,h2.bel,?_⟩
 have hf:=h2.freeze (zIH 4 pv d ks h4);have:=zFH h2 (A':=fun b=>A' b\/vBQ κ' ks b) (fun b hb=>rAW hb) 4 pv d v ks h4 h3 (fun b hb=>rA0 hb)
 exact this.mono (fun b hb=>by
  rcases hf.a1 b hb with h | h
  .exact rAW h
  .exact rA0 ⟨h,hf.alt b hb⟩) (fun _ _ _=>rfl)
end
open Go.RowKit
section
variable {P:Program} {T:Ti} {G:Gl} {N n0:Nat} {Q:Exit->St->Mp->Prop} {s:St} {μ:Mp}
theorem zBV(hm:P.follows .mixedOrders=true)(hT:∀ i x,T i=some x->vA6 P i=x){c:Code}(hf:vBU N c=true)(h:VC P T G n0 c (fun e s'=>Q e s' μ) s):wpM P G N n0 c Q s μ :=
 zO0 hm hf (zHF hT (fun _ _ h=>h) h)
theorem vDC{K:St->Mp->Prop}(h:K s μ):∃ s',LeS G n0 s s'/\K s' μ:=⟨s,fun E N df a w A κ _ hR=>⟨A,κ,hR⟩,h⟩
theorem vFD{K:St->Mp->Prop}(N:List (Np×Nat×Bool))(L:List (Nat×PV))(H:List (Nat×Blk))(Z:List Nat)(k:Nat)(hk:n0<=k)(hZ:∀ r∈Z,r<k)(hN:vSQ s N)(hs:Kept n0 (uJM s N) L H Z k)
 (h:K ⟨sv L,hv H,zv Z,k⟩ μ):∃ s',LeS G n0 s s'/\K s' μ:=⟨_,zK6 hN (hs.le hk hZ),by rw[<- zMO,<- zHE,<- zHD]; exact h⟩
theorem zGC{c:Code}{ι:Type}(L:ι->List (Nat×PV))(H:ι->List (Nat×Blk))(Z:List Nat)(k:Nat)(M:ι->Mp)(Inv:ι->Prop)(me:ι->Nat)(i0:ι)(h0:Inv i0)(hk:n0<=k)(hZ:∀ r∈Z,r<k)(hs:Kept n0 s (L i0) (H i0) Z k)(hM:μ=M i0)
 (round:∀ i,Inv i->wpM P G N n0 c (fun e s' μ'=>match e with
   | .normal=>∃ i',(Inv i'/\me i'<me i)/\Kept n0 s' (L i') (H i') Z k/\μ'=M i'
   | e=>Q e s' μ') ⟨sv (L i),hv (H i),zv Z,k⟩ (M i)):wpM P G N n0 (.loop c) Q s μ :=
 uAY (fun i=>⟨sl (L i),hl (H i),zl Z,k⟩) M Inv me i0 h0 (hs.le hk hZ) hM fun i hi=>by
  have:=round i hi;rw[zMO,zHE,zHD]at this;refine vGG (fun e s' μ' h=>?_) this;cases e<;>first | (obtain⟨i',⟨h1,h2⟩,h3,h4⟩:=h; exact⟨i',h1,h2,h3.le hk hZ,h4⟩) | exact h
theorem uLH(hm:P.follows .mixedOrders=true){f:FuncId}{fn:Func}{c:Code}{rs:List ResultVar}{nt:Nat}(ok:FnOk P f fn c rs nt){ds:List PV}(hl:ds.length<=nt){K:PV->St->Mp->Prop}{t:Tm}{h:Hp}{z:Fz}{nx:Nat}
 (hv:wpM P G nt nx c (vEZ P rs K) ⟨uAP ds,h,z,nx⟩ μ):FnM P G f ds K ⟨t,h,z,nx⟩ μ :=
 vTH ok hl (s:=⟨t,h,z,nx⟩) (by rw[<- zH4]; exact hv)
theorem vTV(hm:P.follows .mixedOrders=true)(hT:∀ i x,T i=some x->vA6 P i=x){c:Code}{rs:List ResultVar}{K:PV->St->Mp->Prop}(hf:vBU N c=true)(h:VC P T G n0 c (vNZ T rs (fun v s'=>K v s' μ)) s):wpM P G N n0 c (vEZ P rs K) s μ :=
 zO0 hm hf (zHF hT (fun e s h=>by
  have:=zB9 hT h
  cases e<;>exact this) h)
def onN(K:St->Prop):Exit->St->Prop
 | .normal,s=>K s
 | _,_=>False
variable {ops suf:List Oper} {K:St->Mp->Prop}
theorem vO1(ops':List Oper):∀ (l:List Oper) (i:Nat) (acc:List (Nat×FP)) (s:St),(∀ o∈l,o.guard=none/\vBR N o=true)->wpOps P G (FnC P G) (FnH P G) false ops' i acc l (fun s'=>vE8 P G N n0 ops suf K s' μ) s->vE8 P G N n0 ops (l++suf) K s μ
 | [],_,_,s,_,h=>h
 | o::l,i,acc,s,hl,h=>by
   obtain⟨h1,h2⟩:=hl o zsm;unfold wpOps at h;simp only[h1]at h;exact uIB h1 h2 (zJ0 FnH.mono (fun fp s' h=>vO1 ops' l (i+1) _ s' (fun o ho=>hl o (by simp[ho])) h.2) h)
theorem zHB(hT:∀ i x,T i=some x->vA6 P i=x)(k:Nat){l:List Oper}(hg:(l.take k).all (fun o=>o.guard.isNone && vBR N o)=true)
 (h:VC P T G n0 (.region 0 (l.take k).toArray false) (onN fun s'=>vE8 P G N n0 ops (l.drop k) K s' μ) s):vE8 P G N n0 ops l K s μ:=by
 have h1:=zHF hT (fun _ _ h=>h) h;rw[<- rC6 k l];refine vO1 (l.take k) (l.take k) 0 [] s (fun o ho=>?_) h1;rw[rBG]at hg;have:=hg o ho;simp only[rAO,rGD]at this;exact this
end
open Go.RowKit
section
variable {P:Program} {T:Ti} {G:Gl} {N n0:Nat} {s:St} {μ:Mp}
theorem uAX(hm:P.follows .mixedOrders=true)(hT:∀ i x,T i=some x->vA6 P i=x){x y:Code}{rs:List ResultVar}{K:PV->St->Mp->Prop}(hf:vBU N x=true)
 (h:VC P T G n0 x (fun e s'=>match e with
   | .normal=>∃ s'',LeS G n0 s' s''/\wpM P G N n0 y (vEZ P rs K) s'' μ
   | e=>vNZ T rs (fun v s'=>K v s' μ) e s') s):wpM P G N n0 (.seq x y) (vEZ P rs K) s μ :=
 zAW (zO0 hm hf (zHF hT (fun e s h=>by
  cases e with
  | normal=>exact h
  | ret=>exact zB9 hT h
  | _=>exact h.elim) h))
theorem uLK{f:FuncId}{a b d v:PV}{b0 b1:Blk}(h:FnC P G f [a,b,.imm [],d] (.wrt b0 v b1)):FnC P G f [a,b,.nilsl,d] (.wrt b0 v b1):=by
 refine⟨h.1,h.1,fun E w A κ vs h1 h2 h3 h4 h5 h6 h7=>h.2.2 E w A κ vs h1 h2 h3 h4 h5 h6 ⟨h7.1,fun i x hx=>?_⟩⟩
 match i,hx with
 | 0,hx=>exact h7.2 0 x hx
 | 1,hx=>exact h7.2 1 x hx
 | 2,hx =>
   cases hx
   have:=h7.2 2 .nilsl rfl;rw[this.nilsl_inv];exact .data _ _ (.imm0 none 0)
 | 3,hx=>exact h7.2 3 x hx
 | i+4,hx=>simp at hx
end
def vBL(f:RowL->RowL)(l:List MultL):List MultL:=l.map fun m=>⟨f m.row,m.coef⟩
def vC1(f:RowL->RowL)(m:LemL):LemL:=⟨m.unit,m.upper,m.value,vBL f m.proof⟩
mutual
def vCO(f:RowL->RowL):NodeL->NodeL
 | .mk l s k e p=>.mk (l.map (vC1 f)) s (vF4 f k) e (vBL f p)
def vF4(f:RowL->RowL):List NodeL->List NodeL
 | []=>[]
 | k::ks=>vCO f k::vF4 f ks
end
def vDP(n than:Int):Int:=if than<n then n - 1 else n
def vTM(k:Int)(r:RowL):RowL:=⟨r.kind,r.index,vDP r.lo (k+1),vDP r.hi (k+1)⟩
def vCI(R:List Int)(v:Int):Int:=v - ((R.filter fun r=>decide (r+1<v)).length:Nat)
def vBY(R:List Int)(r:RowL):RowL:=⟨r.kind,r.index,vCI R r.lo,vCI R r.hi⟩
theorem zH8(f g:RowL->RowL)(l:List MultL):vBL f (vBL g l)=vBL (fun r=>f (g r)) l:=by simp[vBL]
theorem zNY(f g:RowL->RowL)(m:LemL):vC1 f (vC1 g m)=vC1 (fun r=>f (g r)) m:=by simp[vC1,zH8]
mutual
theorem vY6(f g:RowL->RowL):∀ n,vCO f (vCO g n)=vCO (fun r=>f (g r)) n
 | .mk l s k e p=>by
   simp only[vCO,zH8,zKU f g k,rCQ]
   congr 1
   exact rBH fun m _=>zNY f g m
theorem zKU(f g:RowL->RowL):∀ ks,vF4 f (vF4 g ks)=vF4 (fun r=>f (g r)) ks
 | []=>rfl
 | k::ks=>by simp only[vF4,vY6 f g k,zKU f g ks]
end
theorem vGW(l:List MultL):vBL (fun r=>r) l=l:=by simp[vBL]
theorem vX6(m:LemL):vC1 (fun r=>r) m=m:=by simp[vC1,vGW]
mutual
theorem vY5:∀ n,vCO (fun r=>r) n=n
 | .mk l s k e p=>by
   simp only[vCO,vGW,vNF k];rw[show l.map (vC1 fun r=>r)=l from(rBH fun m _=>vX6 m).trans (rEV _)]
theorem vNF:∀ ks,vF4 (fun r=>r) ks=ks
 | []=>rfl
 | k::ks=>by simp only[vF4,vY5 k,vNF ks]
end
theorem vOO:vBY []=fun r=>r:=by
 funext r; simp[vBY,vCI]
def Asc(b:Int):List Int->Prop
 | []=>True
 | x::l=>b<=x/\Asc (x+1) l
theorem zP7:∀ {l:List Int} {b:Int},Asc b l->∀ x∈l,b<=x
 | y::l,b,h,x,hx=>by
   rcases rBA.1 hx with rfl | hx
   .exact h.1
   .have:=zP7 h.2 x hx; have:=h.1; omega
theorem vLC:∀ {l:List Int} {b v:Int},Asc b l->b+1<=v->(((l.filter fun r=>decide (r+1<v)).length:Nat):Int)<=v - b - 1
 | [],b,v,_,hv=>by simp; omega
 | x :: l,b,v,h,hv=>by
   by_cases hx:x+1<v
   .have ih:=vLC (v:=v) h.2 zom
    rw[rGS (by simpa using hx),List.length_cons];have:=h.1; omega
   .have hall:(l.filter fun r=>decide (r+1<v))=[]:=rC0.2 fun r hr=>by
     have:=zP7 h.2 r hr; simp; omega
    rw[rFB (by simpa using hx),hall]; simp; omega
theorem vL6{l:List Int}{b v:Int}(h:Asc b l)(hv:v<=b+1):vCI l v=v:=by
 have:(l.filter fun r=>decide (r+1<v))=[]:=rC0.2 fun r hr=>by
  have:=zP7 h r hr; simp; omega
 unfold vCI; rw[this]; simp
theorem vG0{l:List Int}{b v:Int}(h:Asc b l)(hv:b+1<v):b+1<=vCI l v:=by
 have:=vLC (v:=v) h zom;unfold vCI; omega
theorem uMG{l:List Int}{b k:Int}(h:Asc b l)(hk:k<b)(v:Int):vCI l v=k+1↔v=k+1:=by
 by_cases hv:v<=b+1
 .rw[vL6 h hv]
 .have:=vG0 h (by omega:b+1<v)
  constructor<;>intro e<;>omega
theorem vVG{R O:List Int}{b:Int}(hR:∀ r∈R,r<b)(hO:Asc b O)(v:Int):vCI R (vCI O v)=vCI (R++O) v:=by
 have e:vCI (R++O) v=v - ((R.filter fun r=>decide (r+1<v)).length:Nat) - ((O.filter fun r=>decide (r+1<v)).length:Nat):=by
  unfold vCI; rw[rDV,rAV]; omega
 rw[e];by_cases hv:v<=b+1
 .have h1:=vL6 hO hv
  have h2:(O.filter fun r=>decide (r+1<v))=[]:=rC0.2 fun r hr=>by
   have:=zP7 hO r hr; simp; omega
  rw[h1,h2]; unfold vCI; simp
 .have h1:=vG0 hO (by omega:b+1<v)
  have h3:(R.filter fun r=>decide (r+1<vCI O v))=R.filter fun r=>decide (r+1<v):=by
   refine List.filter_congr fun r hr=>?_
   have:=hR r hr;rw[rB4 zom,rB4 zom]
  have h4:vCI R (vCI O v)=vCI O v - ((R.filter fun r=>decide (r+1<vCI O v)).length:Nat):=rfl;rw[h4,h3]; unfold vCI; omega
theorem vG1{R O:List Int}{b:Int}(hR:∀ r∈R,r<b)(hO:Asc b O):(fun r=>vBY R (vBY O r))=vBY (R++O):=by
 funext r; simp only[vBY,vVG hR hO]
theorem uIA{O:List Int}{k:Int}(hO:Asc (k+1) O)(v:Int):vDP (vCI O v) (k+1)=vCI (k::O) v:=by
 have h1:vCI (k::O) v=vCI [k] (vCI O v):=(vVG (R:=[k]) (b:=k+1) rAE hO v).symm;rw[h1];unfold vDP vCI;by_cases h:k+1<v - ((O.filter fun r=>decide (r+1<v)).length:Nat)
 .rw[rAU h,rGS (by simpa using h)]; simp
 .rw[rAM h,rFB (by simpa using h)]; simp
theorem uB4{O:List Int}{k:Int}(hO:Asc (k+1) O):(fun r=>vTM k (vBY O r))=vBY (k::O):=by
 funext r; simp only[vTM,vBY,uIA hO]
def vCP(l:List MultL):List Int:=l.flatMap fun m=>(if 0<m.row.lo then [m.row.lo - 1] else [])++(if 0<m.row.hi then [m.row.hi - 1] else [])
def keepR:List LemL->Int->List Int->List Bool×List Int
 | [],_,u=>([],u)
 | m::ms,j,u=>if j∈(keepR ms (j+1) u).2 then(true::(keepR ms (j+1) u).1,(keepR ms (j+1) u).2++vCP m.proof) else(false::(keepR ms (j+1) u).1,(keepR ms (j+1) u).2)
mutual
def vFC:NodeL->Int->List Int
 | .mk l _ ks _ p,b=>(keepR l b (vCP p++vDR ks (b+l.length))).2
def vDR:List NodeL->Int->List Int
 | [],_=>[]
 | k::ks,b=>vFC k b++vDR ks b
end
def ownB(l:List LemL)(ks:List NodeL)(p:List MultL)(b:Int):List Bool:=(keepR l b (vCP p++vDR ks (b+l.length))).1
def vB4:List Bool->Int->List Int
 | [],_=>[]
 | true::bs,j=>vB4 bs (j+1)
 | false::bs,j=>j::vB4 bs (j+1)
def vBS:List LemL->List Bool->List LemL
 | m::ms,b::bs=>if b then m::vBS ms bs else vBS ms bs
 | _,_=>[]
mutual
def vC3:NodeL->Int->List Int->NodeL
 | .mk l s ks e p,b,R=>.mk ((vBS l (ownB l ks p b)).map (vC1 (vBY (R++vB4 (ownB l ks p b) b)))) s (vDQ ks (b+l.length) (R++vB4 (ownB l ks p b) b)) e (vBL (vBY (R++vB4 (ownB l ks p b) b)) p)
def vDQ:List NodeL->Int->List Int->List NodeL
 | [],_,_=>[]
 | k::ks,b,R=>vC3 k b R::vDQ ks b R
end
theorem zD4:∀ (l:List LemL) (j:Int) (u:List Int),(keepR l j u).1.length=l.length
 | [],_,_=>rfl
 | m::ms,j,u=>by
   have ih:=zD4 ms (j+1) u;unfold keepR
   split<;>simp[ih]
theorem zFU:∀ (bs:List Bool) (j:Int),Asc j (vB4 bs j)
 | [],_=>trivial
 | true::bs,j=>by
   have h:=zFU bs (j+1);unfold vB4;cases hl:vB4 bs (j+1) with
   | nil=>trivial
   | cons x l=>rw[hl]at h; exact⟨by have:=h.1; omega,h.2⟩
 | false::bs,j=>⟨rFJ _,zFU bs (j+1)⟩
theorem zI4:∀ (bs:List Bool) (j:Int),∀ x∈vB4 bs j,x<j+bs.length
 | [],_,x,h=>by cases h
 | true::bs,j,x,h=>by have:=zI4 bs (j+1) x h; simp; omega
 | false::bs,j,x,h=>by
   rcases rBA.1 h with rfl | h
   .simp; omega
   .have:=zI4 bs (j+1) x h; simp; omega
theorem vU4{R O:List Int}{b:Int}(hR:∀ r∈R,r<b)(hO:Asc b O)(l:List MultL):vBL (vBY R) (vBL (vBY O) l)=vBL (vBY (R++O)) l:=by rw[zH8,vG1 hR hO]
theorem uDS{R O:List Int}{b:Int}(hR:∀ r∈R,r<b)(hO:Asc b O)(m:LemL):vC1 (vBY R) (vC1 (vBY O) m)=vC1 (vBY (R++O)) m:=by rw[zNY,vG1 hR hO]
mutual
theorem uEJ:∀ (n:NodeL) (b:Int) (R:List Int),(∀ r∈R,r<b)->vC3 n b R=vCO (vBY R) (vC3 n b [])
 | .mk l s ks e p,b,R,hR=>by
   have hO:=zFU (ownB l ks p b) b
   have hlt:∀ x∈vB4 (ownB l ks p b) b,x<b+l.length:=fun x hx=>by
    have:=zI4 _ _ x hx;rw[show(ownB l ks p b).length=l.length from zD4 _ _ _]at this; exact this
   simp only[vC3,vCO,List.nil_append];generalize vB4 (ownB l ks p b) b=O at *
   have h1:vDQ ks (b+l.length) (R++O)=vF4 (vBY (R++O)) (vDQ ks (b+l.length) []):=zKP ks _ _ fun r hr=>by
    rcases rAX.1 hr with h | h
    .have:=hR r h; omega
    .exact hlt r h
   have h2:vDQ ks (b+l.length) O=vF4 (vBY O) (vDQ ks (b+l.length) []):=zKP ks _ _ hlt;rw[h1,h2,zKU,vG1 hR hO,vU4 hR hO,rCQ]
   congr 1
   exact rBH fun m _=>(uDS hR hO m).symm
theorem zKP:∀ (ks:List NodeL) (b:Int) (R:List Int),(∀ r∈R,r<b)->vDQ ks b R=vF4 (vBY R) (vDQ ks b [])
 | [],_,_,_=>rfl
 | k::ks,b,R,hR=>by simp only[vDQ,vF4]; rw[uEJ k b R hR,zKP ks b R hR]
end
def vFO(l:List MultL)(k:Int):Bool:=l.any fun m=>decide (m.row.lo=k+1\/m.row.hi=k+1)
mutual
def vDX:NodeL->Int->Bool
 | .mk l _ ks _ p,k=>l.any (fun m=>vFO m.proof k) || vFN ks k || vFO p k
def vFN:List NodeL->Int->Bool
 | [],_=>false
 | n::ks,k=>vDX n k || vFN ks k
end
def vE5(b:Int):Nat->NodeL->NodeL
 | 0,c=>c
 | i+1,.mk l s ks e p=>vE5 b i (if vDX (.mk (l.drop (i+1)) s ks e p) (b+i)=true then .mk l s ks e p else vCO (vTM (b+i)) (.mk (l.take i++l.drop (i+1)) s ks e p))
mutual
def vEG:NodeL->Int->NodeL
 | .mk l s ks e p,b=>vE5 b l.length (.mk l s (vMJ ks (b+l.length)) e p)
def vMJ:List NodeL->Int->List NodeL
 | [],_=>[]
 | k::ks,b=>vEG k b::vMJ ks b
end
theorem vGJ{l:List MultL}{k:Int}(hk:0<=k):vFO l k=true↔k∈vCP l:=by
 unfold vFO vCP;rw[rCY,rER];refine exists_congr fun m=>and_congr_right fun _=>?_
 rw[rAY,rAX]
 have key:∀ v:Int,(k∈if 0<v then [v - 1] else [])↔v=k+1:=fun v=>by
  split
  .rw[rBI]; omega
  .constructor
   .intro h; cases h
   .intro h; omega
 rw[key,key]
theorem zH6{O:List Int}{b k:Int}(hO:Asc b O)(hk:k<b)(l:List MultL):vFO (vBL (vBY O) l) k=vFO l k:=by
 rw[rA1];unfold vFO vBL;rw[rFV,rCY,rCY];refine exists_congr fun m=>and_congr_right fun _=>?_
 simp only[Function.comp,rAY,vBY,uMG hO hk]
mutual
theorem vT0{O:List Int}{b k:Int}(hO:Asc b O)(hk:k<b):∀ n,vDX (vCO (vBY O) n) k=vDX n k
 | .mk l s ks e p=>by
   simp only[vCO,vDX];rw[zH6 hO hk,zJH hO hk ks,rFV]
   congr 2
   exact List.any_congr rfl fun m=>zH6 hO hk m.proof
theorem zJH{O:List Int}{b k:Int}(hO:Asc b O)(hk:k<b):∀ ks,vFN (vF4 (vBY O) ks) k=vFN ks k
 | []=>rfl
 | n::ks=>by simp only[vF4,vFN]; rw[vT0 hO hk n,zJH hO hk ks]
end
theorem zLS{k:Int}(hk:0<=k):∀ (l:List LemL) (j:Int) (u:List Int),k∈(keepR l j u).2↔k∈u\/(vBS l (keepR l j u).1).any (fun m=>vFO m.proof k)=true
 | [],_,u=>by simp[keepR,vBS]
 | m :: ms,j,u=>by
   have ih:=zLS hk ms (j+1) u;unfold keepR
   split
   .rw[rAX,ih]
    simp only[vBS,rCI,List.any_cons,rCE];rw[vGJ hk];constructor
    .rintro((h | h) | h)
     .exact rAW h
     .exact rA0 (rA0 h)
     .exact rA0 (rAW h)
    .rintro(h | h | h)
     .exact rAW (rAW h)
     .exact rA0 h
     .exact rAW (rA0 h)
   .rw[ih]
    simp only[vBS,rCF,rCL]
mutual
theorem vT1{k:Int}(hk:0<=k):∀ (n:NodeL) (b:Int),k<b->(vDX (vC3 n b []) k=true↔k∈vFC n b)
 | .mk l s ks e p,b,hb=>by
   have hO:=zFU (ownB l ks p b) b
   have hlt:∀ x∈vB4 (ownB l ks p b) b,x<b+l.length:=fun x hx=>by
    have:=zI4 _ _ x hx;rw[show(ownB l ks p b).length=l.length from zD4 _ _ _]at this; exact this
   have ih:=zND hk ks (b+l.length) zom;simp only[vC3,vDX,vFC,List.nil_append];rw[zKP ks _ _ hlt,zJH hO hb,zH6 hO hb,rFV,zLS hk,rAX,<- vGJ hk,<- ih,rCE,rCE];rw[show(fun m=>vFO m.proof k)∘vC1 (vBY (vB4 (ownB l ks p b) b))=fun m=>vFO m.proof k from funext fun m=>zH6 hO hb m.proof];unfold ownB;constructor
   .rintro((h | h) | h)
    .exact rA0 h
    .exact rAW (rA0 h)
    .exact rAW (rAW h)
   .rintro((h | h) | h)
    .exact rA0 h
    .exact rAW (rA0 h)
    .exact rAW (rAW h)
theorem zND{k:Int}(hk:0<=k):∀ (ks:List NodeL) (b:Int),k<b->(vFN (vDQ ks b []) k=true↔k∈vDR ks b)
 | [],_,_=>by simp[vDQ,vFN,vDR]
 | n::ks,b,hb=>by
   simp only[vDQ,vFN,vDR];rw[rCE,rAX,vT1 hk n b hb,zND hk ks b hb]
end
theorem zLT(m:LemL)(ms:List LemL)(j:Int)(u:List Int):keepR (m::ms) j u=if j∈(keepR ms (j+1) u).2 then(true::(keepR ms (j+1) u).1,(keepR ms (j+1) u).2++vCP m.proof) else(false::(keepR ms (j+1) u).1,(keepR ms (j+1) u).2):=rfl
theorem vS1(b:Int)(i:Nat)(l:List LemL)(s:DecL)(ks:List NodeL)(e:Bool)(p:List MultL):vE5 b (i+1) (.mk l s ks e p)=vE5 b i (if vDX (.mk (l.drop (i+1)) s ks e p) (b+i)=true then .mk l s ks e p else vCO (vTM (b+i)) (.mk (l.take i++l.drop (i+1)) s ks e p)):=rfl
def stI(l:List LemL)(s:DecL)(ks:List NodeL)(e:Bool)(p:List MultL)(b:Int)(u:List Int)(i:Nat):NodeL :=
 .mk ((l.take i++vBS (l.drop i) (keepR (l.drop i) (b+i) u).1).map (vC1 (vBY (vB4 (keepR (l.drop i) (b+i) u).1 (b+i))))) s (vF4 (vBY (vB4 (keepR (l.drop i) (b+i) u).1 (b+i))) ks) e (vBL (vBY (vB4 (keepR (l.drop i) (b+i) u).1 (b+i))) p)
theorem vP4{l:List LemL}{s:DecL}{ks:List NodeL}{e:Bool}{p:List MultL}{b:Int}{u:List Int}(hb:0<=b)(hu:∀ k,b<=k->k<b+l.length->(k∈u↔vFO p k=true\/vFN ks k=true)):∀ i,i<=l.length->vE5 b i (stI l s ks e p b u i)=stI l s ks e p b u 0
 | 0,_=>rfl
 | i + 1,hi=>by
   have ih:=vP4 (s:=s) (e:=e) hb hu i zom;have hd:l.drop i=l[i]! :: l.drop (i+1):=by rw[rBT zom,rAT l i zom]
   have ht:l.take (i+1)=l.take i++[l[i]!]:=by rw[rA2 zom,rAT l i zom]
   have hk:=zLT l[i]! (l.drop (i+1)) (b+i) u;rw[<- hd]at hk;have ei:b+((i+1:Nat):Int)=b+i+1:=by omega
   have hO:=zFU (keepR (l.drop (i+1)) (b+i+1) u).1 (b+i+1);have hus:=zLS (k:=b+i) zom (l.drop (i+1)) (b+i+1) u;rw[hu (b+i) zom zom]at hus;have htl:(l.take i).length=i:=by rw[rB1]; omega
   generalize hKR:keepR (l.drop (i+1)) (b+i+1) u=KR at *
   obtain⟨B,U⟩:=KR;dsimp only at hO hus;rw[<- ih]
   have hst:stI l s ks e p b u (i+1)=.mk ((l.take i++[l[i]!]++vBS (l.drop (i+1)) B).map (vC1 (vBY (vB4 B (b+i+1))))) s (vF4 (vBY (vB4 B (b+i+1))) ks) e (vBL (vBY (vB4 B (b+i+1))) p):=by
    unfold stI; rw[ei,hKR,ht]
   rw[hst]
   have hdr:((l.take i++[l[i]!]++vBS (l.drop (i+1)) B).map (vC1 (vBY (vB4 B (b+i+1))))).drop (i+1)=(vBS (l.drop (i+1)) B).map (vC1 (vBY (vB4 B (b+i+1)))):=by
    rw[rBE,List.drop_append_of_le_length rAE,rDU rAE,List.nil_append]
   have htk:((l.take i++[l[i]!]++vBS (l.drop (i+1)) B).map (vC1 (vBY (vB4 B (b+i+1))))).take i=(l.take i).map (vC1 (vBY (vB4 B (b+i+1)))):=by
    rw[rBB,rBE,rFZ rAE,rBR rAE]
   rw[vS1,hdr,htk]
   have huse:vDX (.mk ((vBS (l.drop (i+1)) B).map (vC1 (vBY (vB4 B (b+i+1))))) s (vF4 (vBY (vB4 B (b+i+1))) ks) e (vBL (vBY (vB4 B (b+i+1))) p)) (b+i)=true↔b+i∈U:=by
    simp only[vDX];rw[zJH hO zom,zH6 hO zom,rFV,hus,rCE,rCE];rw[show(fun m=>vFO m.proof (b+i))∘vC1 (vBY (vB4 B (b+i+1)))=fun m=>vFO m.proof (b+i) from funext fun m=>zH6 hO zom m.proof];constructor
    .rintro((h | h) | h)
     .exact rA0 h
     .exact rAW (rA0 h)
     .exact rAW (rAW h)
    .rintro((h | h) | h)
     .exact rA0 h
     .exact rAW (rA0 h)
     .exact rAW (rAW h)
   by_cases hm:b+i∈U
   .rw[rAU (huse.2 hm)]
    rw[rAU hm]at hk
    congr 1
    unfold stI;rw[hk,hd];simp only[vBS,rCI,vB4,rBB,List.singleton_append]
   .rw[rAM (fun h=>hm (huse.1 h))]
    rw[rAM hm]at hk
    congr 1
    unfold stI;rw[hk,hd];simp only[vCO,vBS,rCF,rCL,vB4];have hR:(fun r=>vTM (b+i) (vBY (vB4 B (b+i+1)) r))=vBY ((b+i)::vB4 B (b+i+1)):=uB4 hO;rw[zKU,zH8,hR,<- rBE,rCQ]
    congr 1
    exact rBH fun m _=>by simp only[Function.comp]; rw[zNY,hR]
mutual
theorem vOU:∀ (n:NodeL) (b:Int),0<=b->vEG n b=vC3 n b []
 | .mk l s ks e p,b,hb=>by
   have h1:vMJ ks (b+l.length)=vDQ ks (b+l.length) []:=vJP ks _ zom;have h2:=vP4 (l:=l) (s:=s) (ks:=vDQ ks (b+l.length) []) (e:=e) (p:=p) (b:=b) (u:=vCP p++vDR ks (b+l.length)) hb (fun k hk hk2=>by rw[rAX,<- vGJ zom,<- zND zom ks _ hk2]) l.length (rAR _)
   have h3:stI l s (vDQ ks (b+l.length) []) e p b (vCP p++vDR ks (b+l.length)) l.length=.mk l s (vDQ ks (b+l.length) []) e p:=by
    unfold stI;rw[rFC,rBW];simp only[keepR,vBS,vB4,vOO,vNF,vGW,rBQ];rw[show l.map (vC1 fun r=>r)=l from(rBH fun m _=>vX6 m).trans (rEV _)]
   have hlt:∀ x∈vB4 (ownB l ks p b) b,x<b+l.length:=fun x hx=>by
    have:=zI4 _ _ x hx;rw[show(ownB l ks p b).length=l.length from zD4 _ _ _]at this; exact this
   unfold vEG;rw[h1,<- h3,h2];unfold stI vC3;simp only[List.take_zero,rGG,List.nil_append];rw[zKP ks _ _ hlt];have e0:b+((0:Nat):Int)=b:=by omega
   rw[e0]; rfl
theorem vJP:∀ (ks:List NodeL) (b:Int),0<=b->vMJ ks b=vDQ ks b []
 | [],_,_=>rfl
 | n::ks,b,hb=>by simp only[vMJ,vDQ]; rw[vOU n b hb,vJP ks b hb]
end
structure Est(U W p T v1 v2 u3:Nat):Prop where
 u1:p * (u3+4294967296 * T)<=U
 u2:U<p * (u3+4294967296 * T+1)
 w1:p * (v2+4294967296 * v1)<=W
 w2:W<p * (v2+4294967296 * v1+1)
 v1l:2147483648<=v1
 v1h:v1<4294967296
 v2h:v2<4294967296
 u3h:u3<4294967296
 lt:U<W * 4294967296
 p0:0<p
section
variable {U W p T v1 v2 u3:Nat}
theorem Est.init(h:Est U W p T v1 v2 u3){q r:Nat}(ht:T=q * v1+r)(hr:r<v1):U<(q+1) * W/\q<=4294967297:=by
 constructor
 .have h1:p * (u3+4294967296 * T+1)<=p * (4294967296 * ((q+1) * v1)):=rBL _ (by
   have:(q+1) * v1=q * v1+v1:=by rw[rB6,rF2]
   have:=h.u3h
   omega)
  have h2:p * (4294967296 * ((q+1) * v1))=(q+1) * (p * (4294967296 * v1)):=by
   rw[rB2 4294967296,rB2 p]
  have h3:(q+1) * (p * (4294967296 * v1))<=(q+1) * W:=rBL _ (rBU (rBL _ zom) h.w1);have:=h.u2;omega
 .have h1:p * (4294967296 * T)<p * (4294967296 * ((v1+1) * 4294967296)):=by
   have a1:p * (4294967296 * T)<=U:=rBU (rBL _ zom) h.u1;have a2:W * 4294967296<=p * (4294967296 * (v1+1)) * 4294967296:=rBK _ (rBU (rD9 h.w2) (rBL _ (by have:=h.v2h; omega)));have:=h.lt;rw[rBO,rBO]at a2;omega
  have h2:T<(v1+1) * 4294967296:=by
   have:=rCT h1;omega
  have h3:q * v1<4294967298 * v1:=by have:=h.v1l; omega
  have:=Nat.lt_of_mul_lt_mul_right h3;omega
theorem Est.step(h:Est U W p T v1 v2 u3){q r:Nat}(ht:T=q * v1+r)(hc:4294967296<=q\/r * 4294967296+u3<q * v2):U<q * W:=by
 rcases hc with hc | hc
 .have:=h.lt
  have h1:W * 4294967296<=W * q:=rBL _ hc;rw[rBN W q]at h1;omega
 .have h1:u3+4294967296 * T+1<=q * (v2+4294967296 * v1):=by
   rw[rA9,rB2,ht,rA9];omega
  have h2:p * (q * (v2+4294967296 * v1))=q * (p * (v2+4294967296 * v1)):=rB2 ..;have h3:=rBL p h1;have h4:=rBL q h.w1;have:=h.u2;omega
theorem Est.last(h:Est U W p T v1 v2 u3){q r:Nat}(ht:T=q * v1+r)(hq:q<=4294967296)(hc:q * v2<=r * 4294967296+u3):q * W<=U+W:=by
 have h1:q * (v2+4294967296 * v1)<=u3+4294967296 * T:=by
  rw[rA9,rB2,ht,rA9];omega
 have h2:q * (p * (v2+4294967296 * v1))<=U:=by
  rw[rB2];exact rBU (rBL p h1) h.u1
 have h3:q * W<=q * (p * (v2+4294967296 * v1+1)):=rBL _ (rD9 h.w2);have h4:q * (p * (v2+4294967296 * v1+1))=q * (p * (v2+4294967296 * v1))+q * p:=by rw[rA9 p,rFA,rA9]
 have h5:q * p<=W:=by
  have a1:q * p<=4294967296 * p:=rBK _ hq;have a2:p * 4294967296<=p * (v2+4294967296 * v1):=rBL _ (by have:=h.v1l; omega);have:=h.w1;rw[rBN 4294967296 p]at a1;omega
 omega
theorem Est.great(h:Est U W p T v1 v2 u3){q r:Nat}(hq:q<=4294967296)(hr:4294967296<=r):q * v2<=r * 4294967296+u3:=by
 have h1:q * v2<=4294967296 * 4294967296:=rFH hq (rD9 h.v2h);have h2:4294967296 * 4294967296<=r * 4294967296:=rBK _ hr;omega
end
theorem uNR{P V:List Int}(hP:okN P)(hV:okN V){n:Nat}(hn:2<=n)(hPl:P.length=n+1)(hVl:V.length=n)(htop:2147483648<=lb V (n - 1))(hlt:nv P<nv V * 4294967296) :
 Est (nv P) (nv V) (pw (n - 2)) (lb P n * 4294967296+lb P (n - 1)) (lb V (n - 1)) (lb V (n - 2)) (lb P (n - 2)):=by
 have e1:=zCP P (n - 2);have e2:=zCP V (n - 2);have p1:=zC7 hP (n - 2);have p2:=zC7 hP (n - 1);have p3:=zC7 hP n;have p4:nt P (n+1)=0:=zET zom;have v1:=zC7 hV (n - 2);have v2:=zC7 hV (n - 1);have v3:nt V n=0:=zET zom;rw[show n - 2+1=n - 1 by omega]at p1 v1;rw[show n - 1+1=n by omega]at p2 v2;have k1:=zOX hP (n - 2);have k2:=zOX hV (n - 2);have eP:nt P (n - 2)=lb P (n - 2)+4294967296 * (lb P n * 4294967296+lb P (n - 1)):=by omega
 have eV:nt V (n - 2)=lb V (n - 2)+4294967296 * lb V (n - 1):=by omega
 rw[eP]at e1;rw[eV]at e2;exact⟨zom,by rw[rA9 _ _ 1]; omega,zom,by rw[rA9 _ _ 1]; omega,htop,zCW hV _,zCW hV _,zCW hP _,hlt,zL8 _⟩
theorem vSP{B:List Int}(hb:okN B){n k:Nat}(hn:B.length=n)(h1:1<=n)(ht:lb B (n - 1)≠0)(hk:bl (lb B (n - 1))+k=32) :
 nv B * 2 ^ k<pw n/\(vBG (nv B * 2 ^ k)).length=n/\2147483648<=lb (vBG (nv B * 2 ^ k)) (n - 1):=by
 obtain⟨b1,b2,b3⟩:=zCL 32 _ (zCW hb (n - 1)) zdd;have b2:=b2 ht;have e:nv B=nk B (n - 1)+pw (n - 1) * lb B (n - 1):=by rw[<- zBA,show n - 1+1=n by omega,zB0 zom]
 have hk1:=zOX hb (n - 1);have hp:pw n=pw (n - 1) * 4294967296:=by rw[show n=n - 1+1 by omega,zA9,rBN]; rfl
 have hpp:=zL8 (n - 1);have e32:2 ^ bl (lb B (n - 1)) * 2 ^ k=4294967296:=by rw[<- rDH,hk]
 have t1:(lb B (n - 1)+1) * 2 ^ k<=4294967296:=by rw[<- e32]; exact rBK _ b1
 have t2:4294967296<=2 * (lb B (n - 1) * 2 ^ k):=by rw[<- e32,<- rBO]; exact rBK _ b2
 have lo:pw (n - 1) * 2147483648<=nv B * 2 ^ k:=by
  rw[e,rB6,rBO];exact rBU (rBL _ zom) (Nat.le_add_left ..)
 have up:nv B * 2 ^ k<pw n:=by
  have:nv B<pw (n - 1) * (lb B (n - 1)+1):=by rw[e,rA9]; omega
  have:=rF3 this (show 0<2 ^ k from rD6 zdd);rw[rBO]at this;rw[hp];exact rA4 this (rBL _ t1)
 have ho:=zAP (nv B * 2 ^ k);have hv:=zAR (nv B * 2 ^ k);have hl:=zB5 up;generalize vBG (nv B * 2 ^ k)=V at *
 generalize nv B * 2 ^ k=M at *
 have hl2:V.length=n:=by
  rcases rCP V.length n with h | h
  .have a:=zES ho
   have b:=zFO (show V.length<=n - 1 by omega);omega
  .omega
 refine⟨up,hl2,?_⟩;have e2:nv V=nk V (n - 1)+pw (n - 1) * lb V (n - 1):=by rw[<- zBA,show n - 1+1=n by omega,zB0 zom]
 have hk2:=zOX ho (n - 1);have:pw (n - 1) * 2147483648<pw (n - 1) * (lb V (n - 1)+1):=by rw[rA9]; omega
 have:=rCT this;omega
structure GraL where
 ins:Int
 units:List AffL
 outs:List AffL
 deriving Inhabited
def vEF(g:GraL):PV:=.agg [.int .i64 g.ins,.imm (g.units.map vBM),.imm (g.outs.map vBM)]
def vHI(k:Nat)(g:GraL):Prop:=uJG k g.units/\uJG k g.outs
def VaG(g:GraL):Prop:=(1<=g.ins/\g.ins<=256)/\g.units.length<=1024/\(1<=g.outs.length/\g.outs.length<=256)/\(∀ j,j<g.units.length->vB8 g.units[j]! (g.ins+j))/\∀ i,i<g.outs.length->vB8 g.outs[i]! (g.ins+g.units.length)
def vUC(κ:Nat->Nat):Nat->Nat->Nat
 | _,0=>0
 | a,n+1=>κ a+vUC κ (a+1) n
theorem zO5(κ:Nat->Nat):∀ (m a n:Nat),vUC κ a (m+n)=vUC κ a m+vUC κ (a+m) n
 | 0,a,n=>by simp[vUC]
 | m+1,a,n=>by
   rw[show m+1+n=(m+n)+1 by omega,vUC,vUC,zO5 κ m (a+1) n,show a+1+m=a+(m+1) by omega]; omega
theorem vIY(κ:Nat->Nat):∀ (l:List QT) (a n:Nat),l.Pairwise (fun p q=>p.1<q.1)->(∀ t∈l,(a:Int)<=t.1/\t.1<(a+n:Nat))->(l.map fun t=>κ t.1.toNat).sum<=vUC κ a n
 | [],_,_,_,_=>by simp
 | t::l,a,n,hp,h=>by
   obtain⟨h1,h2⟩:=h t zsm;rw[rFM]at hp;obtain⟨v,hv⟩:∃ v:Nat,t.1=v:=⟨t.1.toNat,zom⟩;obtain⟨d,rfl⟩:∃ d,v=a+d:=⟨v - a,zom⟩;obtain⟨m,rfl⟩:∃ m,n=d+(m+1):=⟨n - d - 1,zom⟩
   have ih:=vIY κ l (a+d+1) m hp.2 fun q hq=>by
    have e1:=hp.1 q hq;have e2:=(h q (by simp[hq])).2;omega
   rw[zO5,vUC,rBM,List.sum_cons,hv];simp only[Int.toNat_natCast];omega
def phase(p:Rat):Int:=if 0<p then 1 else if p<0 then 2 else 0
theorem vLS{l:List QT}(n:Nat)(h:l.Pairwise (fun p q=>p.1<q.1))(hv:∀ t∈l,0<=t.1/\t.1<n):l.length<=n:=by
 have:=vIY (fun _=>1) l 0 n h fun t ht=>by have:=hv t ht; omega
 have e:∀ a m,vUC (fun _=>1) a m=m:=by
  intro a m
  induction m generalizing a with
  | zero=>rfl
  | succ m ih=>rw[vUC,ih]; omega
 rw[e]at this
 have e2:(l.map fun _=>1).sum=l.length:=by
  clear this h hv
  induction l with
  | nil=>rfl
  | cons a l ih=>rw[rBM,List.sum_cons,ih,List.length_cons]; omega
 omega
section
variable {us:List QF} {x:List Rat} {ph:List Int} {n:Nat}
end
def smG(g:GraL):Prop:=g.ins<=4/\uOU g.units 5/\uOU g.outs 3
theorem uAJ{f:AffL}{m n:Int}(h:m<=n)(hf:vB8 f m):vB8 f n:=⟨fun i hi=>by
 obtain⟨h1,h2,h3⟩:=hf.1 i hi
 exact⟨h1,zom,h3⟩,hf.2⟩
section
variable {us:List QF} {n:Nat} {p:List Int} {x:List Rat}
end
structure QryL where
 g:GraL
 r:RegL
 goal:AffL
 deriving Inhabited
def vBJ(q:QryL):PV:=.agg [.int .i64 q.g.ins,.imm (q.g.units.map vBM),.imm (q.g.outs.map vBM),.imm (q.r.lo.map vA5),.imm (q.r.hi.map vA5),.imm (q.r.rows.map vBM),.imm (q.goal.terms.map vCB),.bool q.goal.const.neg,vBK q.goal.const.num,vBK q.goal.const.den]
structure ScpL where
 q:QryL
 path:List DecL
 lems:List LemL
 deriving Inhabited
def vBD(s:ScpL):PV:=.agg [.int .i64 s.q.g.ins,.imm (s.q.g.units.map vBM),.imm (s.q.g.outs.map vBM),.imm (s.q.r.lo.map vA5),.imm (s.q.r.hi.map vA5),.imm (s.q.r.rows.map vBM),.imm (s.q.goal.terms.map vCB),.bool s.q.goal.const.neg,vBK s.q.goal.const.num,vBK s.q.goal.const.den,.imm (s.path.map vA9),.imm (s.lems.map vBA)]
def VaQ(q:QryL):Prop:=VaG q.g/\VaR q.r q.g.ins/\vB8 q.goal (q.g.ins+q.g.units.length)
def vBN(c:Rat):QF:=⟨[],c⟩
def vCE(f g:QF):QF:=vB3 f g (-1)
def vDE(f:QF)(c:Rat):QF:=vB3 zeroQ f c
theorem zNP{f g:QF}(hf:Srt f.ts)(hg:Srt g.ts)(h:∀ v,cf f.ts v=cf g.ts v)(hc:f.c=g.c):f=g:=by
 cases f; cases g
 simp only at *
 rw[zNG hf hg h,hc]
theorem zB6{f g:QF}{c:Rat}(hf:Srt f.ts)(hg:Srt g.ts)(v:Int):cf (vB3 f g c).ts v=cf f.ts v+cf g.ts v * c:=(zFX c _ f.ts g.ts (rAR _) hf hg).2 v
theorem zH2(f g:QF)(c:Rat):(vB3 f g c).c=f.c+g.c * c:=rfl
theorem zJC(v:Int):cf zeroQ.ts v=0:=rfl
theorem zCY:Srt zeroQ.ts:=zGX
theorem zFC(c:Rat):Srt (vBN c).ts:=zGX
theorem zIZ(v:Int):Srt (vCN v).ts:=uA4 v
theorem vUD{f g:QF}{c:Rat}(hf:Srt f.ts)(hg:Srt g.ts):vCE f (vDE g c)=vB3 f g (-c):=by
 have h0:=zBD (c:=c) zCY hg;refine zNP (zBD hf h0) (zBD hf hg) (fun v=>?_) ?_
 .unfold vCE vDE
  rw[zB6 hf h0,zB6 zCY hg,zB6 hf hg,zJC]; grind
 .simp only[vCE,vDE,zH2,zeroQ]; grind
theorem uHL{f g:QF}(hf:Srt f.ts)(hg:Srt g.ts):vDE (vCE f g) (-1)=vCE g f:=by
 have h0:=zBD (c:=-1) hf hg;refine zNP (zBD zCY h0) (zBD hg hf) (fun v=>?_) ?_
 .unfold vCE vDE
  rw[zB6 zCY h0,zB6 hf hg,zB6 hg hf,zJC]; grind
 .simp only[vCE,vDE,zH2,zeroQ]; grind
def uOO(r:RatL):Prop:=r.neg=false/\r.num.length=0/\r.den.length=0
def vE0(r:RatL):Prop:=r=cr (qv r)
def vFH(q:QryL)(d:DecL):Prop:=((d.kind=1\/d.kind=2)/\0<=d.index/\d.index<q.g.units.length/\uOO d.rat)\/((d.kind=3\/d.kind=4)/\0<=d.index/\d.index<q.g.ins/\vE0 d.rat)
def vEJ(S:ScpL)(k j:Int):Bool:=S.path.any fun d=>decide (d.kind=k) && decide (d.index=j)
def vC2(S:ScpL)(n j:Int)(up:Bool):Option Rat:=if 1<=n/\n<=S.lems.length/\S.lems[n.toNat - 1]!.unit=j/\S.lems[n.toNat - 1]!.upper=up then some (qv S.lems[n.toNat - 1]!.value) else none
def inO(S:ScpL)(r:RowL):Option QF :=
 if r.index<0\/r.lo≠0\/r.hi≠0 then none
 else if r.kind=1/\r.index<S.q.r.lo.length then some (vCE (vCN r.index) (vBN (qv S.q.r.lo[r.index.toNat]!)))
 else if r.kind=2/\r.index<S.q.r.hi.length then some (vCE (vBN (qv S.q.r.hi[r.index.toNat]!)) (vCN r.index))
 else if r.kind=3/\r.index<S.q.r.rows.length then some S.q.r.rows[r.index.toNat]!.Q
 else if r.kind=4/\r.index<S.path.length then
  (if S.path[r.index.toNat]!.kind=3 then some (vCE (vCN S.path[r.index.toNat]!.index) (vBN (qv S.path[r.index.toNat]!.rat)))
  else if S.path[r.index.toNat]!.kind=4 then some (vCE (vBN (qv S.path[r.index.toNat]!.rat)) (vCN S.path[r.index.toNat]!.index)) else none)
 else none
def geO(o:Option Rat):Bool:=match o with
 | some l=>decide (0<=l)
 | none=>false
def leO(o:Option Rat):Bool:=match o with
 | some l=>decide (l<=0)
 | none=>false
def onB(S:ScpL)(r:RowL):Bool:=decide (r.hi=0) && (decide (r.lo=0) && vEJ S 1 r.index || geO (vC2 S r.lo r.index false))
def vPB(S:ScpL)(r:RowL):Bool:=decide (r.lo=0) && (decide (r.hi=0) && vEJ S 2 r.index || leO (vC2 S r.hi r.index true))
def uG6(v p:QF)(l u:Rat):QF:=vCE (vDE (vCE p (vBN l)) u) (vDE v (u - l))
def unO(S:ScpL)(r:RowL):Option QF :=
 if r.index<0\/S.q.g.units.length<=r.index then none
 else
  if r.kind=5 then(if r.lo=0/\r.hi=0 then some (vCN (S.q.g.ins+r.index)) else none)
  else if r.kind=6 then(if r.lo=0/\r.hi=0 then some (vCE (vCN (S.q.g.ins+r.index)) S.q.g.units[r.index.toNat]!.Q) else none)
  else if r.kind=7 then(if onB S r=true then some S.q.g.units[r.index.toNat]!.Q else none)
  else if r.kind=8 then(if onB S r=true then some (vCE S.q.g.units[r.index.toNat]!.Q (vCN (S.q.g.ins+r.index))) else none)
  else if r.kind=9 then(if vPB S r=true then some (vDE S.q.g.units[r.index.toNat]!.Q (-1)) else none)
  else if r.kind=10 then(if vPB S r=true then some (vDE (vCN (S.q.g.ins+r.index)) (-1)) else none)
  else if r.kind=11 then(match vC2 S r.lo r.index false with
   | some l=>if r.hi=0 then some (vCE S.q.g.units[r.index.toNat]!.Q (vBN l)) else none
   | none=>none)
  else if r.kind=12 then(match vC2 S r.hi r.index true with
   | some u=>if r.lo=0 then some (vCE (vBN u) S.q.g.units[r.index.toNat]!.Q) else none
   | none=>none)
  else if r.kind=13 then(match vC2 S r.lo r.index false,vC2 S r.hi r.index true with
   | some l,some u=>if l<0/\0<u then some (uG6 (vCN (S.q.g.ins+r.index)) S.q.g.units[r.index.toNat]!.Q l u) else none
   | _,_=>none)
  else none
def vDB(S:ScpL)(r:RowL):Option QF:=if r.kind<5 then inO S r else unO S r
def vB6(S:ScpL):Prop:=VaQ S.q/\∀ d∈S.path,vFH S.q d
def vDD(S:ScpL):Int:=S.q.g.ins+S.q.g.units.length
theorem vIP{n v:Int}(h0:0<=v)(h:v<n):okF n (vCN v):=⟨zIZ v,fun t ht=>by
 have:t=(v,1):=rBI.1 ht
 subst this; exact⟨h0,h⟩⟩
theorem zHS(n:Int)(c:Rat):okF n (vBN c):=⟨zFC c,fun t ht=>by cases ht⟩
theorem zMY{n:Int}{f g:QF}{c:Rat}(hf:okF n f)(hg:okF n g):okF n (vB3 f g c):=⟨zBD hf.1 hg.1,fun t ht=>by
 rcases zFD _ _ _ _ (rAR _) t ht with⟨p,hp,e⟩ | ⟨p,hp,e⟩
 .have:=hf.2 p hp; omega
 .have:=hg.2 p hp; omega⟩
theorem zFQ(n:Int):okF n zeroQ:=⟨zGX,fun t ht=>by cases ht⟩
theorem zFS{n:Int}{f g:QF}(hf:okF n f)(hg:okF n g):okF n (vCE f g):=zMY hf hg
theorem zO8{n:Int}{f:QF}{c:Rat}(hf:okF n f):okF n (vDE f c):=zMY (zFQ n) hf
theorem vJ4{m n:Int}{f:QF}(h:m<=n)(hf:okF m f):okF n f:=⟨hf.1,fun t ht=>by have:=hf.2 t ht; omega⟩
theorem zAM{c:Prop}[Decidable c]{a b:Option QF}{f:QF}(h:(if c then a else b)=some f):(c/\a=some f)\/(¬ c/\b=some f):=by
 by_cases hc:c
 .rw[rAU hc]at h; exact rAW ⟨hc,h⟩
 .rw[rAM hc]at h; exact rA0 ⟨hc,h⟩
theorem zBH{c:Prop}[Decidable c]{g f:QF}(h:(if c then some g else none)=some f):c/\g=f:=by
 rcases zAM h with⟨hc,e⟩ | ⟨_,e⟩
 .cases e; exact⟨hc,rfl⟩
 .cases e
theorem vOF {S:ScpL} (hS:vB6 S) {r:RowL} {f:QF} (h:vDB S r=some f):okF (vDD S) f:=by
 obtain⟨⟨hg,hr,_⟩,hp⟩:=hS;have hi:=hg.1.1;have hn:S.q.g.ins<=vDD S:=by unfold vDD; omega
 unfold vDB at h
 split at h
 .unfold inO at h
  split at h
  .cases h
  .rename_i h0
   split at h
   .rename_i h1; cases h; exact zFS (vIP zom (by have:=hr.2.1; omega)) (zHS _ _)
   .split at h
    .rename_i h1; cases h; exact zFS (zHS _ _) (vIP zom (by have:=hr.2.2.1; omega))
    .split at h
     .rename_i h1; cases h
      exact vJ4 hn (zMB (hr.2.2.2.2.2 _ zom))
     .split at h
      .rename_i h1
       have hm:S.path[r.index.toNat]! ∈ S.path:=by rw[rAT S.path r.index.toNat zom]; exact rB3 _
       have hd:=hp _ hm
       split at h
       .rename_i h2; cases h
        rcases hd with⟨hk,_⟩ | ⟨hk,h3,h4,_⟩
        .omega
        .exact zFS (vIP h3 zom) (zHS _ _)
       .split at h
        .rename_i h2; cases h
         rcases hd with⟨hk,_⟩ | ⟨hk,h3,h4,_⟩
         .omega
         .exact zFS (zHS _ _) (vIP h3 zom)
        .cases h
      .cases h
 .unfold unO at h
  rcases zAM h with⟨h0,h⟩ | ⟨h0,h⟩
  .cases h
  have hv:okF (vDD S) (vCN (S.q.g.ins+r.index)):=vIP zom (by unfold vDD; omega);have hu:okF (vDD S) S.q.g.units[r.index.toNat]!.Q:=vJ4 (by unfold vDD; omega) (zMB (hg.2.2.2.1 _ (show r.index.toNat<S.q.g.units.length by omega)));rcases zAM h with⟨_,h⟩ | ⟨_,h⟩
  .rw[<- (zBH h).2]; exact hv
  rcases zAM h with⟨_,h⟩ | ⟨_,h⟩
  .rw[<- (zBH h).2]; exact zFS hv hu
  rcases zAM h with⟨_,h⟩ | ⟨_,h⟩
  .rw[<- (zBH h).2]; exact hu
  rcases zAM h with⟨_,h⟩ | ⟨_,h⟩
  .rw[<- (zBH h).2]; exact zFS hu hv
  rcases zAM h with⟨_,h⟩ | ⟨_,h⟩
  .rw[<- (zBH h).2]; exact zO8 hu
  rcases zAM h with⟨_,h⟩ | ⟨_,h⟩
  .rw[<- (zBH h).2]; exact zO8 hv
  rcases zAM h with⟨_,h⟩ | ⟨_,h⟩
  .cases hb:vC2 S r.lo r.index false with
   | none=>rw[hb]at h; cases h
   | some l=>rw[hb]at h; rw[<- (zBH h).2]; exact zFS hu (zHS _ _)
  rcases zAM h with⟨_,h⟩ | ⟨_,h⟩
  .cases hb:vC2 S r.hi r.index true with
   | none=>rw[hb]at h; cases h
   | some l=>rw[hb]at h; rw[<- (zBH h).2]; exact zFS (zHS _ _) hu
  rcases zAM h with⟨_,h⟩ | ⟨_,h⟩
  .cases hb:vC2 S r.lo r.index false with
   | none=>rw[hb]at h; cases h
   | some l=>cases hb2:vC2 S r.hi r.index true with
     | none=>rw[hb,hb2]at h; cases h
     | some u=>rw[hb,hb2]at h; rw[<- (zBH h).2]; exact zFS (zO8 (zFS hu (zHS _ _))) (zO8 hv)
  .cases h
def vET(a b:RowL):Prop:=a.kind<b.kind\/a.kind=b.kind/\(a.index<b.index\/a.index=b.index/\(a.lo<b.lo\/a.lo=b.lo/\a.hi<b.hi))
def uDC(S:ScpL)(l:List MultL)(k:Nat):Prop:=vE0 l[k]!.coef/\0<qv l[k]!.coef/\(0<k->vET l[k - 1]!.row l[k]!.row)/\(vDB S l[k]!.row).isSome=true
def okM(S:ScpL)(l:List MultL)(i:Nat):Prop:=∀ k,k<i->uDC S l k
def rw'(S:ScpL)(m:MultL):QF:=(vDB S m.row).getD zeroQ
theorem uHN{S:ScpL}(hS:vB6 S)(m:MultL):okF (vDD S) (rw' S m):=by
 unfold rw';cases h:vDB S m.row with
 | none=>exact zFQ _
 | some f=>exact vOF hS h
def vEB(S:ScpL)(f:QF)(l:List MultL)(i:Nat):QF:=(l.take i).foldl (fun f m=>vB3 f (rw' S m) (- qv m.coef)) f
def vF8(S:ScpL)(l:List MultL)(i:Nat):QF:=(l.take i).foldl (fun f m=>vB3 f (rw' S m) (qv m.coef)) zeroQ
theorem zEM{S:ScpL}{f:QF}{l:List MultL}{i:Nat}(h:i<l.length):vEB S f l (i+1)=vB3 (vEB S f l i) (rw' S l[i]!) (- qv l[i]!.coef):=by
 unfold vEB; rw[rA2 h,rEK,rAT l i h]; rfl
theorem zHJ{S:ScpL}{l:List MultL}{i:Nat}(h:i<l.length):vF8 S l (i+1)=vB3 (vF8 S l i) (rw' S l[i]!) (qv l[i]!.coef):=by
 unfold vF8; rw[rA2 h,rEK,rAT l i h]; rfl
theorem zLB{S:ScpL}(hS:vB6 S){f:QF}(hf:okF (vDD S) f){l:List MultL}:∀ {i:Nat},i<=l.length->okF (vDD S) (vEB S f l i)
 | 0,_=>by unfold vEB; simpa using hf
 | i+1,h=>by rw[zEM zom]; exact zMY (zLB hS hf zom) (uHN hS _)
theorem zHK{S:ScpL}(hS:vB6 S){l:List MultL}:∀ {i:Nat},i<=l.length->okF (vDD S) (vF8 S l i)
 | 0,_=>zFQ _
 | i+1,h=>by rw[zHJ zom]; exact zMY (zHK hS zom) (uHN hS _)
theorem vGU{S:ScpL}(hS:vB6 S){f:QF}(hf:okF (vDD S) f){l:List MultL}:∀ i,i<=l.length->vEB S f l i=vCE f (vF8 S l i)
 | 0,_=>by
   refine zNP (zLB (l:=l) (i:=0) hS hf (rA7 _)).1 (zBD hf.1 (zHK (l:=l) (i:=0) hS (rA7 _)).1) (fun v=>?_) ?_
   .unfold vCE; rw[zB6 hf.1 (zHK (l:=l) (i:=0) hS (rA7 _)).1]; simp only[vEB,vF8,List.take_zero,List.foldl_nil,zJC]; grind
   .simp only[vEB,vF8,List.take_zero,List.foldl_nil,vCE,zH2,zeroQ]; grind
 | i+1,h=>by
   have ih:=vGU hS hf (l:=l) i zom;have hi:i<=l.length:=by omega
   have h1:=(zHK hS hi).1;have h2:=(zHK hS h).1;have h3:=(uHN hS l[i]!).1;have h4:=(zLB hS hf hi).1;refine zNP (zLB hS hf h).1 (zBD hf.1 h2) (fun v=>?_) ?_
   .unfold vCE
    rw[zEM zom,zB6 h4 h3,ih,zB6 hf.1 h2,zHJ zom,zB6 h1 h3];unfold vCE;rw[zB6 hf.1 h1]; grind
   .rw[zEM zom,ih,zHJ zom]
    simp only[vCE,zH2]; grind
def vGA(S:ScpL)(f:QF)(l:List MultL):Prop:=okM S l l.length/\(vEB S f l l.length).ts=[]/\0<=(vEB S f l l.length).c
def vRO(S:ScpL)(l:List MultL):Prop:=okM S l l.length/\(vEB S zeroQ l l.length).ts=[]/\0<(vEB S zeroQ l l.length).c
def vFT(S:ScpL)(m:LemL):QF:=if m.upper=true then vDE (vCE S.q.g.units[m.unit.toNat]!.Q (vBN (qv m.value))) (-1) else vCE S.q.g.units[m.unit.toNat]!.Q (vBN (qv m.value))
def vIM(S:ScpL)(m:LemL):Prop:=(0<=m.unit/\m.unit<S.q.g.units.length)/\vE0 m.value/\vGA S (vFT S m) m.proof
def vBW(S:ScpL)(l:List LemL):ScpL:=⟨S.q,S.path,S.lems++l⟩
def vHT(S:ScpL)(l:List LemL):Prop:=∀ i,i<l.length->vIM (vBW S (l.take i)) l[i]!
abbrev vTN(d:DecL):DecL:=opp d
def vCJ(S:ScpL)(n:NodeL):Prop:=vHT S n.lemmas/\(if n.kids.length=0 then(if n.empty=true then vRO (vBW S n.lemmas) n.proof else vGA (vBW S n.lemmas) S.q.goal.Q n.proof) else vFH S.q n.split)
def vCU(S:ScpL)(n:NodeL)(d:DecL):ScpL:=⟨S.q,S.path++[d],S.lems++n.lemmas⟩
open Classical in
noncomputable def vBE(S:ScpL)(n:NodeL):Option (List DecL) :=
 if vCJ S n then
  match h:n.kids with
  | [a,b]=>match vBE (vCU S n n.split) a with
    | some p=>some p
    | none=>vBE (vCU S n (vTN n.split)) b
  | _=>none
 else some S.path
termination_by SizeOf.sizeOf n
decreasing_by
 .exact NodeL.sizeOf_kid (by rw[h]; simp)
 .exact NodeL.sizeOf_kid (by rw[h]; simp)
section
variable {S:ScpL} {x:List Rat}
theorem uF2{l:List LemL}(hS:vB6 S):vB6 (vBW S l):=hS
end
theorem vP1{q:QryL}{d:DecL}(hd:vFH q d):vFH q (vTN d):=by
 unfold vFH at *
 unfold vTN opp uLO;rcases hd with⟨h,h1⟩ | ⟨h,h1⟩
 .left; refine⟨?_,h1⟩; rcases h with h | h<;>simp[h]
 .right; refine⟨?_,h1⟩; rcases h with h | h<;>simp[h]
inductive NodeL.Bin:NodeL->Prop
 | mk (n:NodeL) (h:n.kids.length=0\/n.kids.length=2) (hk:∀ k∈n.kids,NodeL.Bin k):NodeL.Bin n
theorem NodeL.Bin.len{n:NodeL}(h:n.Bin):n.kids.length=0\/n.kids.length=2:=by cases h; assumption
theorem NodeL.Bin.kid{n:NodeL}(h:n.Bin){k:NodeL}(hk:k∈n.kids):k.Bin:=by
 cases h with | mk _ _ h2=>exact h2 k hk
theorem zDB{S:ScpL}{n:NodeL}(h:¬ vCJ S n):vBE S n=some S.path:=by rw[vBE,rAM h]
theorem zEE{S:ScpL}{n:NodeL}(h:vCJ S n)(hk:n.kids.length=0):vBE S n=none:=by
 have e:n.kids=[]:=rAZ.1 hk;rw[vBE,rAU h]
 split
 .rename_i a b h2; rw[e]at h2; cases h2
 .rfl
theorem zCC{S:ScpL}{n:NodeL}{a b:NodeL}(h:vCJ S n)(hk:n.kids=[a,b]):vBE S n=match vBE (vCU S n n.split) a with
 | some p=>some p
 | none=>vBE (vCU S n (vTN n.split)) b:=by
 rw[vBE,rAU h]
 split
 .rename_i a' b' h2
  rw[hk]at h2; cases h2; rfl
 .rename_i h2
  exact absurd hk (h2 a b)
theorem ok_kid{S:ScpL}(hS:vB6 S){n:NodeL}{d:DecL}(hd:vFH S.q d):vB6 (vCU S n d):=⟨hS.1,fun e he=>by
 rcases rAX.1 he with he | he
 .exact hS.2 e he
 .rw[rBI.1 he]; exact hd⟩
structure ScpLe(S T:ScpL):Prop where
 g:T.q.g=S.q.g
 lo:T.q.r.lo=S.q.r.lo
 hi:T.q.r.hi=S.q.r.hi
 rows:∃ l,T.q.r.rows=S.q.r.rows++l
 path:T.path=S.path
 lems:∃ l,T.lems=S.lems++l
theorem vM8{α:Type}[Inhabited α]{a b:List α}{i:Nat}(h:i<a.length):(a++b)[i]! = a[i]! := by
 rw[rAT _ i rAE,rAT a i h,rGJ h]
section
variable {S T:ScpL}
theorem zIR(h:ScpLe S T){n j:Int}{up:Bool}{v:Rat}(e:vC2 S n j up=some v):vC2 T n j up=some v:=by
 obtain⟨l,hl⟩:=h.lems;unfold vC2 at e ⊢
 split at e
 .rename_i c
  have hi:n.toNat - 1<S.lems.length:=by omega
  rw[hl,vM8 hi,rAU ⟨c.1,by have:=c.2.1; simp; omega,c.2.2⟩]; exact e
 .cases e
theorem vP5(h:ScpLe S T)(k j:Int):vEJ T k j=vEJ S k j:=by unfold vEJ; rw[h.path]
theorem vV8(h:ScpLe S T){r:RowL}(e:onB S r=true):onB T r=true:=by
 unfold onB at *
 rw[vP5 h];simp only[rAO,rCE,rAY]at e ⊢;refine⟨e.1,e.2.imp id fun q=>?_⟩;cases hb:vC2 S r.lo r.index false with
 | none=>rw[hb]at q; cases q
 | some l=>rw[zIR h hb]; rw[hb]at q; exact q
theorem vPA(h:ScpLe S T){r:RowL}(e:vPB S r=true):vPB T r=true:=by
 unfold vPB at *
 rw[vP5 h];simp only[rAO,rCE,rAY]at e ⊢;refine⟨e.1,e.2.imp id fun q=>?_⟩;cases hb:vC2 S r.hi r.index true with
 | none=>rw[hb]at q; cases q
 | some l=>rw[zIR h hb]; rw[hb]at q; exact q
theorem uJZ(h:ScpLe S T){r:RowL}{f:QF}(e:inO S r=some f):inO T r=some f:=by
 obtain⟨l,hl⟩:=h.rows;unfold inO at e ⊢;rw[h.lo,h.hi,h.path];rcases zAM e with⟨c,e⟩ | ⟨c,e⟩
 .cases e
 rw[rAM c];rcases zAM e with⟨c,e⟩ | ⟨c,e⟩
 .rw[rAU c]; exact e
 rw[rAM c];rcases zAM e with⟨c,e⟩ | ⟨c,e⟩
 .rw[rAU c]; exact e
 rw[rAM c];rcases zAM e with⟨c,e⟩ | ⟨c,e⟩
 .rw[rAU ⟨c.1,by rw[hl]; have:=c.2; simp; omega⟩,hl,vM8 zom]; exact e
 rcases zAM e with⟨c2,e⟩ | ⟨c2,e⟩
 .have hk:=c2.1
  rw[rAM (fun q=>by omega),rAU c2]; exact e
 .cases e
theorem uG5(h:ScpLe S T){r:RowL}{f:QF}(e:unO S r=some f):unO T r=some f:=by
 unfold unO at e ⊢;rw[h.g];rcases zAM e with⟨c,e⟩ | ⟨c,e⟩
 .cases e
 rw[rAM c];rcases zAM e with⟨c,e⟩ | ⟨c,e⟩
 .rw[rAU c]; exact e
 rw[rAM c];rcases zAM e with⟨c,e⟩ | ⟨c,e⟩
 .rw[rAU c]; exact e
 rw[rAM c];rcases zAM e with⟨c,e⟩ | ⟨c,e⟩
 .obtain⟨o,e⟩:=zBH e; rw[rAU c,rAU (vV8 h o),e]
 rw[rAM c];rcases zAM e with⟨c,e⟩ | ⟨c,e⟩
 .obtain⟨o,e⟩:=zBH e; rw[rAU c,rAU (vV8 h o),e]
 rw[rAM c];rcases zAM e with⟨c,e⟩ | ⟨c,e⟩
 .obtain⟨o,e⟩:=zBH e; rw[rAU c,rAU (vPA h o),e]
 rw[rAM c];rcases zAM e with⟨c,e⟩ | ⟨c,e⟩
 .obtain⟨o,e⟩:=zBH e; rw[rAU c,rAU (vPA h o),e]
 rw[rAM c];rcases zAM e with⟨c,e⟩ | ⟨c,e⟩
 .rw[rAU c]
  cases hb:vC2 S r.lo r.index false with
  | none=>rw[hb]at e; cases e
  | some l=>rw[zIR h hb]; rw[hb]at e; exact e
 rw[rAM c];rcases zAM e with⟨c,e⟩ | ⟨c,e⟩
 .rw[rAU c]
  cases hb:vC2 S r.hi r.index true with
  | none=>rw[hb]at e; cases e
  | some l=>rw[zIR h hb]; rw[hb]at e; exact e
 rw[rAM c];rcases zAM e with⟨c,e⟩ | ⟨c,e⟩
 .rw[rAU c]
  cases hb:vC2 S r.lo r.index false with
  | none=>rw[hb]at e; cases e
  | some l=>cases hb2:vC2 S r.hi r.index true with
    | none=>rw[hb,hb2]at e; cases e
    | some u=>rw[zIR h hb,zIR h hb2]; rw[hb,hb2]at e; exact e
 .cases e
theorem vOG(h:ScpLe S T){r:RowL}{f:QF}(e:vDB S r=some f):vDB T r=some f:=by
 unfold vDB at *
 rcases zAM e with⟨c,e⟩ | ⟨c,e⟩
 .rw[rAU c]; exact uJZ h e
 .rw[rAM c]; exact uG5 h e
theorem vO7(h:ScpLe S T){l:List MultL}{i:Nat}(e:okM S l i):okM T l i:=fun k hk=>by
 obtain⟨h1,h2,h3,h4⟩:=e k hk;obtain⟨f,hf⟩:=rBZ.1 h4;exact⟨h1,h2,h3,by rw[vOG h hf]; rfl⟩
theorem zJS(h:ScpLe S T){f:QF}{l:List MultL}:∀ {i:Nat},i<=l.length->okM S l i->vEB T f l i=vEB S f l i
 | 0,_,_=>rfl
 | i+1,hi,e=>by
   have ih:=zJS h (f:=f) (l:=l) (i:=i) zom fun k hk=>e k zom
   obtain⟨_,_,_,h4⟩:=e i zom;obtain⟨g,hg⟩:=rBZ.1 h4;rw[zEM zom,zEM zom,ih];have e1:rw' S l[i]! = g:=by unfold rw'; rw[hg]; rfl
   have e2:rw' T l[i]! = g:=by unfold rw'; rw[vOG h hg]; rfl
   rw[e1,e2]
theorem vOT(h:ScpLe S T){f:QF}{l:List MultL}(e:vGA S f l):vGA T f l:=by
 refine⟨vO7 h e.1,?_,?_⟩
 .rw[zJS h (rAR _) e.1]; exact e.2.1
 .rw[zJS h (rAR _) e.1]; exact e.2.2
theorem uBV(h:ScpLe S T){l:List MultL}(e:vRO S l):vRO T l:=by
 refine⟨vO7 h e.1,?_,?_⟩
 .rw[zJS h (rAR _) e.1]; exact e.2.1
 .rw[zJS h (rAR _) e.1]; exact e.2.2
theorem vX7(h:ScpLe S T)(m:LemL):vFT T m=vFT S m:=by unfold vFT; rw[h.g]
theorem uDQ(h:ScpLe S T){m:LemL}(e:vIM S m):vIM T m:=by
 refine⟨by rw[h.g]; exact e.1,e.2.1,?_⟩;rw[vX7 h]; exact vOT h e.2.2
theorem uGE(S:ScpL)(l:List LemL):ScpLe S (vBW S l):=⟨rfl,rfl,rfl,⟨[],by simp[vBW]⟩,rfl,⟨l,rfl⟩⟩
end
theorem vUY(S:ScpL)(a b:List LemL):vBW (vBW S a) b=vBW S (a++b):=by simp[vBW,rBB]
theorem vSV{S:ScpL}{l:List LemL}(h:vHT S l)(h0:0<l.length):vHT S (l++[l[l.length - 1]!]):=fun i hi=>by
 by_cases e:i<l.length
 .rw[vM8 e,rFZ zom]; exact h i e
 .have e2:i=l.length:=by simp at hi; omega
  subst e2;rw[rF4,show(l++[l[l.length - 1]!])[l.length]! = l[l.length - 1]! from by rw[rAT _ _ zsm]; simp]
  .have h1:=h (l.length - 1) zom
   have h2:=uGE (vBW S (l.take (l.length - 1))) (l.drop (l.length - 1));rw[vUY,rC6]at h2;exact uDQ h2 h1
  .rfl
theorem vSX{S:ScpL}{n:NodeL}(h:vCJ S n)(hk:n.kids.length=0)(h0:0<n.lemmas.length){n':NodeL}(e1:n'.lemmas=n.lemmas++[n.lemmas[n.lemmas.length - 1]!])(e2:n'.kids=n.kids)(e3:n'.empty=n.empty)(e4:n'.proof=n.proof):vCJ S n':=by
 obtain⟨h1,h2⟩:=h;rw[rAU hk]at h2;refine⟨by rw[e1]; exact vSV h1 h0,?_⟩;rw[e2,rAU hk,e3,e4,e1,<- vUY];have hle:=uGE (vBW S n.lemmas) [n.lemmas[n.lemmas.length - 1]!]
 split
 .rename_i c; rw[rAU c]at h2; exact uBV hle h2
 .rename_i c; rw[rAM c]at h2; exact vOT hle h2
theorem vVR{P:Program}{T:Ti}{G:Gl}{C:vA8}{I:vB1}{Le:LeT}{Q:Exit->St->Prop}{a b:Code}{s:St}(M:St)(h2:vc P T G C I Le b Q M)(h1:vc P T G C I Le b Q M->vc P T G C I Le a (vDO Le (vc P T G C I Le b Q) Q) s):vc P T G C I Le (.seq a b) Q s:=h1 h2
theorem uMN{P:Program}{T:Ti}{G:Gl}{C:vA8}{I:vB1}{Le:LeT}{Q:Exit->St->Prop}{a b:Code}{s:St}(M:St)(X:Prop)(h2:X->vc P T G C I Le b Q M)(h1:(X->vc P T G C I Le b Q M)->vc P T G C I Le a (vDO Le (vc P T G C I Le b Q) Q) s):vc P T G C I Le (.seq a b) Q s:=h1 h2
section
variable {P:Program} {T:Ti} {G:Gl} {n0:Nat} {C:vA8}
theorem uED{f:FuncId}{args ds:List PV}{ks:List Nat}{b:Bool}{K:PV->St->Prop}{s:St}(hC:FnC P G f ds (.data (.bool b)))(hf:vB7 (frz s.h 6) args=some (ds,ks))(hk:K (.bool b) s):FnH P G f args K s:=by
 refine⟨hC.1,fun E w A κ vs hn hκ hA hw H hfr hvs=>?_⟩;have hRD:=zM5 H hf hvs;have hHf:=H.freeze (zBY hf);have hcall:=hC.2 w _ _ hHf.alt hHf.gok hRD;refine hcall.mono fun e w' ⟨v',he,hb,hh⟩=>?_
 have hv:v'=.bool b:=(RV.data (κ:=κ) _ _ hh).bool_inv;subst hv;exact⟨_,.bool b,_,κ,s,he,H.after hb (X:=fun _=>False) (fun b h=>h.elim),hfr,rAR _,.data _ _ (.bool b),hk⟩
theorem zLV{f:FuncId}{args ds:List PV}{ks:List Nat}{b:Bool}{d:Option Nat}{K:FP->St->Prop}{t:Tm}{h:Hp}{z:Fz}{nx:Nat}
 (hC:FnC P G f ds (.data (.bool b))) (hf:vB7 (frz h 6) args=some (ds,ks)) (hk:vFK K t d (.bool b) h z nx ⟨[],[],[]⟩):vFJ C (FnH P G) false f args d K ⟨t,h,z,nx⟩ :=
 zGS (uED hC hf hk)
end
open Go.RowKit
theorem HR.rename {E:Env} {G:Gl} {w:World} {A:Nat->Prop} {κ:Ka} {h:Hp} {z:Fz} (H0:HR E G w A κ h z) {n k:Nat} {κ0:Ka} {H:List (Nat×Blk)} {Z:List Nat} (ρ:Nat->Nat)
 (hρ:∀ r,r<n->(if r<k then κ (ρ r) else none)=κ0 r)
 (hH:∀ q∈H,q.1<k/\(∀ e∈q.2.els,e≠.any)/\∃ b,h (ρ q.1)=some b/\rnB ρ k q.2 b/\zl Z q.1=z (ρ q.1))
 (hinj:∀ p∈H,∀ q∈H,p.1≠q.1->ρ p.1≠ρ q.1):HR { E with n0:=n,κ0:=κ0,gh:=false } G w A (fun r=>if r<k then κ (ρ r) else none) (hl H) (zl Z):=by
 let κ':Ka:=fun r=>if r<k then κ (ρ r) else none
 have hk':∀ r,r<k->κ' r=κ (ρ r):=fun r hr=>by simp[κ',hr]
 show HR { E with n0:=n,κ0:=κ0,gh:=false } G w A κ' (hl H) (zl Z)
 refine⟨H0.bel,H0.hB,H0.alt,H0.a0,H0.a1,H0.acell,fun r hr=>?_,fun g e hg=>?_,fun r m sz cap hr=>?_,⟨H0.kp.base,H0.kp.keep,H0.kp.wr,fun r b' m sz cap hb hκ hc hz=>?_,H0.kp.mks,H0.kp.nd,H0.kp.kb,H0.kp.kk,H0.kp.zk,H0.kp.mk0,fun hg=>Bool.noConfusion hg⟩,fun r b' hb hκ=>?_,fun r r' b b' m m' s1 s2 c c' hne hr hr' h1 h2 hc hc'=>?_⟩
 .exact hρ r hr
 .obtain⟨b,o,val,hv,h1,h2,h3⟩:=(H0.glob g e hg).cptr_inv
  rw[hv]; exact .data _ _ (.cptr e 0 b o val h1 h2 h3)
 .by_cases hlt:r<k
  .rw[hk' r hlt]at hr; exact H0.klt (ρ r) m sz cap hr
  .simp[κ',hlt]at hr
 .obtain⟨h1,_,b,h2,_,h5⟩:=hH _ (zDY hb)
  rw[hk' r h1]at hκ;exact H0.kp.own _ b m sz cap h2 hκ hc (by rw[<- h5]; exact hz)
 .obtain⟨h1,hany,b,h2,⟨h3,h3',h4⟩,h5⟩:=hH _ (zDY hb)
  obtain⟨m,cap,g1,g2,g3,g4⟩:=H0.blk _ b h2 (by rw[<- hk' r h1]; exact hκ)
  have hlen:b'.els.length=b.els.length:=by
   rcases h4 with h | h
   .rw[h.1]
   .exact(zER h).1
  refine⟨m,cap,by rw[hk' r h1,g1,h3],zom,fun e he=>?_,?_⟩
  .rcases h4 with h | h
   .rw[h3,h3']; exact g3 e (by rw[<- h.1]; exact he)
   .obtain⟨i,hi,rfl⟩:=rA8 he
    obtain⟨y,hy,hxy⟩:=(zER h).2 i _ (rAQ hi);obtain⟨c1,c2,_⟩:=zMU hxy (hany _ he);have:=g3 y (rAS hy);rw[h3,h3',c1,c2]; exact this
  .rcases g4 with g4 | ⟨c,ty,f1,f2,f3,f4,f5,f6,f7⟩
   .exact rAW g4
   .refine rA0 ⟨c,ty,f1,f2,by rw[h3]; exact f3,f4,fun i e he j x hx=>?_,fun hz=>f6 (by rw[<- h5]; exact hz),fun hz=>f7 (by rw[<- h5]; exact hz)⟩
    rw[h3];rcases h4 with h | h
    .rw [h.1]at he
     obtain⟨v,q1,q2,q3⟩:=f5 i e he j x hx;refine⟨v,q1,?_,q3⟩;have hnr:=h.2 e (rAS he)
     have hnx:∃ n,nr n x=true:=by
      cases e with
      | agg cs =>
        simp only[nr,rBG]at hnr;exact⟨2,hnr x (rAS hx)⟩
      | _ =>
        simp only[PV.cells]at hx;cases j with
        | zero=>simp at hx; subst hx; exact⟨3,hnr⟩
        | succ j=>simp at hx
     obtain⟨n,hn⟩:=hnx;exact RV.nr_any n x v hn q2
    .obtain⟨y,hy,hxy⟩:=(zER h).2 i e he
     obtain⟨_,_,c3⟩:=zMU hxy (hany _ (rAS he));obtain⟨m',y',hy',hr'⟩:=c3 j x hx;obtain⟨v,q1,q2,q3⟩:=f5 i y hy j y' hy';exact⟨v,q1,RV.rn hk' m' x y' v hr' q2,q3⟩
 .obtain⟨p1,_,bp,p2,_,_⟩:=hH _ (zDY hr)
  obtain⟨q1,_,bq,q2,_,_⟩:=hH _ (zDY hr');rw[hk' r p1]at h1;rw[hk' r' q1]at h2;exact H0.excl _ _ bp bq m m' _ _ _ _ (hinj _ (zDY hr) _ (zDY hr') hne) p2 q2 h1 h2 hc hc'
theorem HR.fromHere{E:Env}{G:Gl}{w:World}{A:Nat->Prop}{κ:Ka}{h:Hp}{z:Fz}(H:HR E G w A κ h z):HR { E with kw:=w } G w A κ h z :=
 ⟨H.bel,H.hB,H.alt,H.a0,H.a1,H.acell,H.k0,H.glob,H.klt,⟨H.kp.base,H.kp.keep,H.kp.wr,H.kp.own,H.kp.mks,H.kp.nd,Below.refl _ _,fun b hb=>⟨(H.kp.kk b hb).1,rfl,(H.kp.kk b hb).2.2⟩,H.kp.zk,H.kp.mk0,H.kp.gk⟩,H.blk,H.excl⟩
section
variable {P:Program} {G:Gl}
theorem uNP{f:FuncId}{args args':List PV}{K0 K:PV->St->Prop}{t t':Tm}{h:Hp}{z:Fz}{nx k0:Nat}{H0:List (Nat×Blk)}{Z0:List Nat}(ρ:Nat->Nat)
 (hF:FnH P G f args' K0 ⟨t',hl H0,zl Z0,k0⟩) (hl0:args'.length=args.length) (hA:∀ (i:Nat) d',args'[i]?=some d'->∃ d,args[i]?=some d/\rn ρ k0 3 d' d)
 (hH0:∀ q∈H0,q.1<k0/\(∀ e∈q.2.els,e≠.any)/\∃ b,h (ρ q.1)=some b/\rnB ρ k0 q.2 b/\zl Z0 q.1=z (ρ q.1)) (hZ0:∀ r∈Z0,r<k0)
 (hinj0:∀ p∈H0,∀ q∈H0,p.1≠q.1->ρ p.1≠ρ q.1) (hg:∃ b,h 0=some b/\∀ i,b≠vC7 i)
 (hK:∀ pv s',K0 pv s'->∃ (bv:Bool) (H:List (Nat×Blk)) (Z:List Nat) (k:Nat) (σ:Nat->Nat),pv=.bool bv/\nx<=k/\(∀ r,r<nx->(σ r<k0/\ρ (σ r)=r)\/s'.nx<=σ r) /\
   (∀ q∈H,q.1<k/\(∀ e∈q.2.els,e≠.any)/\∃ b,s'.h (σ q.1)=some b/\rnB σ k q.2 b/\zl Z q.1=s'.z (σ q.1))/\(∀ r∈Z,r<k)/\(∀ p∈H,∀ q∈H,p.1≠q.1->σ p.1≠σ q.1)/\K (.bool bv) ⟨fun _=>.any,hl H,zl Z,k⟩) :
 FnH P G f args K ⟨t,h,z,nx⟩:=by
 refine⟨hF.1,fun E w A κ vs hn hκ hA0 hw H hfr hvs=>?_⟩;simp only at hn H hfr
 have gh:E.gh=false:=by
  cases e:E.gh with
  | false=>rfl
  | true =>
    obtain⟨b,hb,hb2⟩:=hg;exact absurd ((H.kp.gk e).2.2 b hb) (hb2 _)
 obtain⟨κ1,hκ1⟩:∃ κ1:Ka,κ1=fun r=>if r<k0 then κ (ρ r) else none:=⟨_,rfl⟩
 have hk1:∀ r,r<k0->κ1 r=κ (ρ r):=fun r hr=>by rw[hκ1]; simp[hr]
 have H1:HR { E with n0:=k0,κ0:=κ1,gh:=false } G w A κ1 (hl H0) (zl Z0):=by
  rw[hκ1];exact H.rename ρ (fun r hr=>rfl) hH0 hinj0
 have hfr1:vDA k0 κ1 (hl H0) (zl Z0):=fun r hr=>by
  refine⟨?_,?_,by rw[hκ1]; simp only[rAM (Nat.not_lt.2 hr)]⟩
  .cases hb:hl H0 r with
   | none=>rfl
   | some b=>have:=(hH0 _ (zDY hb)).1; simp only at this; omega
  .show Z0.contains r=false
   refine contains_false.2 fun hm=>?_
   have:=hZ0 r hm;omega
 have hvs1:RVs w A κ1 args' vs:=by
  refine⟨hl0.trans hvs.1,fun i d' hd=>?_⟩;obtain⟨d,h1,h2⟩:=hA i d' hd;exact RV.rn hk1 3 _ _ _ h2 (hvs.2 i d h1)
 have hcall:=hF.2 { E with n0:=k0,κ0:=κ1,gh:=false,kw:=w } w A κ1 vs rfl rfl hA0 hw H1.fromHere hfr1 hvs1;refine hcall.mono fun e w' ⟨v,pv,A',κ',s',he,H2,hfr2,hnx,hpv,hk⟩=>?_
 obtain⟨bv,Hn,Z,k,σ,hb,hnk,hσ,hHn,hZ,hinj,hKK⟩:=hK pv s' hk;subst hb;simp only at hnx;have hk0:∀ r,r<k0->κ' r=κ1 r:=fun r hr=>H2.k0 r hr
 obtain⟨κ2,hκ2⟩:∃ κ2:Ka,κ2=fun r=>if r<k then κ' (σ r) else none:=⟨_,rfl⟩
 have H3:HR { E with n0:=0,κ0:=κ,gh:=false,kw:=w } G w' A' κ2 (hl Hn) (zl Z):=by
  rw[hκ2];exact H2.rename σ (n:=0) (κ0:=κ) (fun r hr=>by cases hr) hHn hinj
 obtain⟨κ3,hκ3⟩:∃ κ3:Ka,κ3=fun r=>if r<nx then κ r else κ2 r:=⟨_,rfl⟩
 have low:∀ r,r<nx->κ3 r=κ r:=fun r hr=>by rw[hκ3]; simp[hr]
 have high:∀ r,¬ r<nx->κ3 r=κ2 r:=fun r hr=>by rw[hκ3]; simp[hr]
 have two:∀ r,r<nx->κ2 r=κ r\/κ2 r=none:=fun r hr=>by
  rw[hκ2];simp only[rAU (rA4 hr hnk)];rcases hσ r hr with⟨h1,h2⟩ | h1
  .left; rw[hk0 _ h1,hk1 _ h1,h2]
  .right; exact(hfr2 _ h1).2.2
 have mono:∀ r x,κ2 r=some x->κ3 r=some x:=fun r x hx=>by
  by_cases hr:r<nx
  .rw[low r hr]
   rcases two r hr with h1 | h1
   .rw[<- h1]; exact hx
   .rw[h1]at hx; cases hx
  .rw[high r hr]; exact hx
 have same:∀ r b,hl Hn r=some b->κ3 r=κ2 r:=fun r b hb=>by
  by_cases hr:r<nx
  .obtain⟨h1,_,b',h2,_⟩:=hHn _ (zDY hb)
   rcases hσ r hr with⟨q1,q2⟩ | q1
   .rw[low r hr,hκ2]
    simp only at h1;simp only[rAU h1];rw[hk0 _ q1,hk1 _ q1,q2]
   .rw[(hfr2 _ q1).1]at h2; cases h2
  .exact high r hr
 have grow:w.heap.size<=w'.heap.size:=H3.kp.kb.size;have mv:∀ {d v},RV w' A' κ2 d v->RV w' A' κ3 d v:=fun hv=>hv.mono (fun _ h=>h) (fun _ _ _=>rfl) mono
 refine⟨v,.bool bv,A',κ3,_,he,?_,fun r hr=>?_,hnk,?_,hKK⟩
 .refine⟨H3.bel,H3.hB,H3.alt,H3.a0,H3.a1,H3.acell,fun r hr=>?_,fun g e hg=>mv (H3.glob g e hg),fun r m sz cap hr=>?_,⟨H3.kp.base,H3.kp.keep,H3.kp.wr,fun r b m sz cap hb hκ' hc hz=>?_,H3.kp.mks,H3.kp.nd,H.kp.kb.trans H3.kp.kb,fun b hb=>?_,H3.kp.zk,H3.kp.mk0,fun hg'=>by rw[gh]at hg'; cases hg'⟩,fun r b hb hκ'=>?_,fun r r' b b' m m' s1 s2 c c' hne hr hr' h1 h2 hc hc'=>?_⟩
  .rw[low r zom,hκ]
  .by_cases hr2:r<nx
   .rw[low r hr2]at hr
    rcases H.klt r m sz cap hr with h1 | h1
    .exact rAW h1
    .exact rA0 (rA4 h1 grow)
   .rw[high r hr2]at hr; exact H3.klt r m sz cap hr
  .rw[same r b hb]at hκ'; exact H3.kp.own r b m sz cap hb hκ' hc hz
  .obtain⟨a1,a2,a3⟩:=H3.kp.kk b hb
   exact⟨a1,a2.trans (H.kp.kk b hb).2.1,a3⟩
  .rw[same r b hb]at hκ'
   obtain⟨m,cap,g1,g2,g3,g4⟩:=H3.blk r b hb hκ';refine⟨m,cap,by rw[same r b hb]; exact g1,g2,g3,?_⟩;rcases g4 with g4 | ⟨c,ty,f1,f2,f3,f4,f5,f6,f7⟩
   .exact rAW g4
   .exact rA0 ⟨c,ty,f1,f2,f3,f4,fun i e he=>(f5 i e he).mono (fun _ h=>h) (fun _ _ _=>rfl) mono,f6,f7⟩
  .rw[same r b hr]at h1
   rw[same r' b' hr']at h2;exact H3.excl r r' b b' m m' s1 s2 c c' hne hr hr' h1 h2 hc hc'
 .have hr':k<=r:=hr
  refine⟨?_,?_,?_⟩
  .cases hb:hl Hn r with
   | none=>exact hb
   | some b=>have:=(hHn _ (zDY hb)).1; simp only at this; omega
  .show Z.contains r=false
   refine contains_false.2 fun hm=>?_
   have:=hZ r hm;omega
  .rw[high r zom,hκ2]; simp only[rAM (Nat.not_lt.2 hr')]
 .rw[hpv.bool_inv]; exact .data _ _ (.bool bv)
end
def Bd(D A:Nat)(q:Rat):Prop:=0<D/\(∃ z:Int,(D:Rat) * q=(z:Rat))/\-(A:Rat)<=q/\q<=(A:Rat)
theorem vJ7{D:Nat}(h:0<D):(0:Rat)<(D:Rat):=by exact_mod_cast h
theorem vHM(D:Nat):(0:Rat)<=(D:Rat):=by exact_mod_cast rA7 D
theorem Bd.mul{D E A B:Nat}{p q:Rat}(hp:Bd D A p)(hq:Bd E B q):Bd (D * E) (A * B) (p * q):=by
 obtain⟨d0,⟨z,hz⟩,p1,p2⟩:=hp;obtain⟨e0,⟨w,hw⟩,q1,q2⟩:=hq;refine⟨Nat.mul_pos d0 e0,⟨z * w,?_⟩,?_,?_⟩
 .rw[rEA,Rat.intCast_mul,<- hz,<- hw]; grind
 .have h1:=rEN (show(0:Rat)<=A+p by grind) (show(0:Rat)<=B+q by grind)
  have h2:=rEN (show(0:Rat)<=A - p by grind) (show(0:Rat)<=B - q by grind);rw[rEA]; grind
 .have h1:=rEN (show(0:Rat)<=A - p by grind) (show(0:Rat)<=B+q by grind)
  have h2:=rEN (show(0:Rat)<=A+p by grind) (show(0:Rat)<=B - q by grind);rw[rEA]; grind
theorem Bd.up{D A B:Nat}{q:Rat}(h:Bd D A q)(k:Nat)(hk:0<k)(hB:A<=B):Bd (k * D) B q:=by
 obtain⟨d0,⟨z,hz⟩,p1,p2⟩:=h;have hB':(A:Rat)<=B:=by exact_mod_cast hB
 refine⟨Nat.mul_pos hk d0,⟨k * z,?_⟩,by grind,by grind⟩;rw[rEA,Rat.intCast_mul,<- hz,Rat.intCast_natCast]; grind
theorem Bd.add{D A B:Nat}{p q:Rat}(hp:Bd D A p)(hq:Bd D B q):Bd D (A+B) (p+q):=by
 obtain⟨d0,⟨z,hz⟩,p1,p2⟩:=hp;obtain⟨_,⟨w,hw⟩,q1,q2⟩:=hq;refine⟨d0,⟨z+w,?_⟩,?_,?_⟩
 .rw[Rat.intCast_add,<- hz,<- hw]; grind
 .rw[Rat.natCast_add]; grind
 .rw[Rat.natCast_add]; grind
theorem Bd.max{D A:Nat}{p:Rat}(h:Bd D A p):Bd D A (uQS 0 p):=by
 unfold uQS
 split
 .obtain⟨d0,_,p1,p2⟩:=h
  have:=vHM A;exact⟨d0,⟨0,by rw[Rat.intCast_zero]; grind⟩,by grind,by grind⟩
 .exact h
theorem Bd.sz{D A d a:Nat}{q:Rat}(h:Bd D A q)(hD:D<pw d)(hA:A<pw a):sz (d+a) q:=by
 obtain⟨d0,⟨z,hz⟩,p1,p2⟩:=h;have hd:=vJ7 d0
 have e:q=mkRat z D:=by
  rw[Rat.mkRat_eq_div,<- Rat.intCast_natCast];rw[<- hz,Rat.intCast_natCast];have hn:(D:Rat)≠0:=by grind
  have:=Rat.mul_inv_cancel _ hn;rw[Rat.div_def]
  grind
 have hz1:(z:Rat)<=((D * A:Nat):Rat):=by
  rw[<- hz,rEA];exact rFW p2 (Rat.le_of_lt hd)
 have hz2:-((D * A:Nat):Rat)<=(z:Rat):=by
  rw[<- hz,rEA];have:=rFW p1 (Rat.le_of_lt hd)
  grind
 have h1:z<=((D * A:Nat):Int):=by
  rw[<- Rat.intCast_natCast]at hz1; exact rEF.1 hz1
 have h2:-((D * A:Nat):Int)<=z:=by
  rw[<- Rat.intCast_natCast,<- Rat.intCast_neg]at hz2; exact rEF.1 hz2
 have h3:=zEN hD hA;have h4:=zFO (show d<=d+a by omega);rw[e];exact uA8 zom zom zom
theorem Bd.qv(r:RatL):Bd (dn r.den) (nv r.num) (Go.PI.qv r):=by
 have d0:0<dn r.den:=Nat.pos_of_ne_zero (zDA _);have hd:=vJ7 d0
 have e:(dn r.den:Rat) * Go.PI.qv r=((sg r.neg (nv r.num):Int):Rat):=by
  unfold Go.PI.qv;rw[Rat.mkRat_eq_div]
  grind
 have habs:=zGE r.neg (nv r.num);refine⟨d0,⟨_,e⟩,?_,?_⟩
 .have h1:-((nv r.num:Nat):Int)<=sg r.neg (nv r.num):=by omega
  have h2:(-((nv r.num:Nat):Rat))<=((sg r.neg (nv r.num):Int):Rat):=by
   rw[<- Rat.intCast_natCast,<- Rat.intCast_neg]; exact rEF.2 h1
  rw[<- e]at h2;have h3:(1:Rat)<=(dn r.den:Rat):=by exact_mod_cast d0
  have h5:=vHM (nv r.num);apply rFR.1;intro hc;have h4:(0:Rat)<=((dn r.den:Rat) - 1) * (nv r.num:Rat):=rEN (by grind) h5;have h6:0<(dn r.den:Rat) * (-(nv r.num:Rat) - Go.PI.qv r):=Rat.mul_pos hd (by grind)
  grind
 .have h1:sg r.neg (nv r.num)<=((nv r.num:Nat):Int):=by omega
  have h2:((sg r.neg (nv r.num):Int):Rat)<=((nv r.num:Nat):Rat):=by
   rw[<- Rat.intCast_natCast]; exact rEF.2 h1
  rw[<- e]at h2;have h3:(1:Rat)<=(dn r.den:Rat):=by exact_mod_cast d0
  have h5:=vHM (nv r.num);apply rFR.1;intro hc;have h4:(0:Rat)<=((dn r.den:Rat) - 1) * (nv r.num:Rat):=rEN (by grind) h5;have h6:0<(dn r.den:Rat) * (Go.PI.qv r - (nv r.num:Rat)):=Rat.mul_pos hd (by grind)
  grind
def lnQ(r:RatL):Nat:=r.num.length+r.den.length+1
def tL(l:List TermL):Nat:=(l.map fun t=>lnQ t.coef+1).sum
def lnA(f:AffL):Nat:=lnQ f.const+1+tL f.terms
def BdL(E M:Nat)(vs:List Rat):Prop:=(0<E/\1<=M)/\∀ v∈vs,Bd E M v
theorem BdL.sz{E M d a:Nat}{vs:List Rat}(h:BdL E M vs)(hD:E<pw d)(hA:M<pw a):∀ v∈vs,sz (d+a) v:=fun v hv=>(h.2 v hv).sz hD hA
theorem Bd.neg{D A:Nat}{q:Rat}(h:Bd D A q):Bd D A (-q):=by
 obtain⟨d0,⟨z,hz⟩,p1,p2⟩:=h;exact⟨d0,⟨-z,by rw[Rat.intCast_neg,<- hz]; grind⟩,by grind,by grind⟩
theorem Bd.sum{D E A B:Nat}{p q:Rat}(hp:Bd D A p)(hq:Bd E B q):Bd (D * E) (A+B) (p+q):=by
 have h1:=hp.up E hq.1 (rAR _);have h2:=hq.up D hp.1 (rAR _);rw[rBN]at h1;exact h1.add h2
def lQ(r:RatL):Nat:=r.num.length+r.den.length
def vL(l:List LemL):Nat:=(l.map fun m=>lQ m.value).sum
def sC(l:List MultL):Nat:=(l.map fun m=>lQ m.coef+1).sum
def NodeL.tot(f:NodeL->Nat)(n:NodeL):Nat:=f n+(n.kids.attach.map fun⟨k,_⟩=>NodeL.tot f k).sum
termination_by SizeOf.sizeOf n
decreasing_by exact NodeL.sizeOf_kid ‹_›
theorem NodeL.tot_eq(f:NodeL->Nat)(n:NodeL):n.tot f=f n+(n.kids.map (NodeL.tot f)).sum:=by
 rw[NodeL.tot]
 congr 1
 simp
theorem vGL{f:NodeL->Nat}{n k:NodeL}(h:k∈n.kids):f n+k.tot f<=n.tot f:=by
 rw[NodeL.tot_eq f n]
 have:∀ (l:List NodeL),k∈l->k.tot f<=(l.map (NodeL.tot f)).sum:=by
  intro l
  induction l with
  | nil=>intro h; cases h
  | cons a l ih =>
    intro h;rw[rBM,List.sum_cons];rcases rBA.1 h with rfl | h
    .omega
    .have:=ih h; omega
 have:=this _ h;omega
theorem zMS(f:NodeL->Nat)(n:NodeL):f n<=n.tot f:=by rw[NodeL.tot_eq]; omega
theorem vGM{α:Type}(f g:α->Nat):∀ l:List α,(l.map fun x=>f x+g x).sum=(l.map f).sum+(l.map g).sum
 | []=>rfl
 | x::l=>by simp only[rBM,List.sum_cons,vGM f g l]; omega
theorem vLQ(f g:NodeL->Nat):∀ (k:Nat) (n:NodeL),SizeOf.sizeOf n<k->n.tot (fun x=>f x+g x)=n.tot f+n.tot g:=by
 intro k
 induction k with
 | zero=>intro n h; omega
 | succ k ih =>
   intro n h;rw[NodeL.tot_eq,NodeL.tot_eq f,NodeL.tot_eq g];have:n.kids.map (NodeL.tot fun x=>f x+g x)=n.kids.map fun x=>x.tot f+x.tot g:=rBH fun x hx=>ih x (by have:=NodeL.sizeOf_kid hx; omega)
   rw[this,vGM];omega
def spF(n:NodeL):Nat:=lQ n.split.rat
def vlF(n:NodeL):Nat:=vL n.lemmas
def uL(l:List LemL):Nat:=(l.map fun m=>if m.upper=true then lQ m.value else 0).sum
def loL(l:List LemL):Nat:=(l.map fun m=>if m.upper=true then 0 else lQ m.value).sum
def uF(n:NodeL):Nat:=uL n.lemmas
def lF(n:NodeL):Nat:=loL n.lemmas
theorem uA3:vlF=fun n=>uF n+lF n:=by
 funext n
 unfold vlF uF lF vL uL loL;rw[<- vGM]
 congr 1
 refine rBH fun m _=>?_
 split<;>omega
theorem uFH(n:NodeL):n.tot vlF=n.tot uF+n.tot lF:=by rw[uA3,vLQ uF lF _ n (rAL _)]
def coF(n:NodeL):Nat:=(n.lemmas.map fun m=>sC m.proof).sum+sC n.proof
def NodeL.bk(n:NodeL):Nat:=n.tot fun x=>spF x+vlF x+coF x
theorem uOI(n:NodeL):n.bk=n.tot spF+n.tot vlF+n.tot coF:=by
 unfold NodeL.bk;rw[vLQ (fun x=>spF x+vlF x) coF _ n (rAL _),vLQ spF vlF _ n (rAL _)]
inductive NodeL.NOk:NodeL->Prop
 | mk (n:NodeL) (h1:∀ m∈n.lemmas,okR m.value/\∀ p∈m.proof,okR p.coef) (h2:okR n.split.rat) (h3:∀ p∈n.proof,okR p.coef) (h4:∀ k∈n.kids,NodeL.NOk k):NodeL.NOk n
theorem NodeL.NOk.lem{n:NodeL}(h:n.NOk):∀ m∈n.lemmas,okR m.value/\∀ p∈m.proof,okR p.coef:=by cases h; assumption
theorem NodeL.NOk.spl{n:NodeL}(h:n.NOk):okR n.split.rat:=by cases h; assumption
theorem NodeL.NOk.prf{n:NodeL}(h:n.NOk):∀ p∈n.proof,okR p.coef:=by cases h; assumption
theorem NodeL.NOk.kid{n:NodeL}(h:n.NOk){k:NodeL}(hk:k∈n.kids):k.NOk:=by
 cases h with | mk _ _ _ _ h4=>exact h4 k hk
theorem zF0{α:Type}{f:α->Nat}{x:α}:∀ {l:List α},x∈l->f x<=(l.map f).sum
 | a::l,h=>by
   rw[rBM,List.sum_cons];rcases rBA.1 h with rfl | h
   .omega
   .have:=zF0 (f:=f) h; omega
theorem uMB{l:List MultL}{p:MultL}(h:p∈l):lQ p.coef+1<=sC l:=zF0 (f:=fun m:MultL=>lQ m.coef+1) h
theorem uGK:∀ (k:Nat) (n:NodeL),SizeOf.sizeOf n<k->n.cnt<=n.wt:=by
 intro k
 induction k with
 | zero=>intro n h; omega
 | succ k ih =>
   intro n h;rw[NodeL.cnt_eq,NodeL.wt_eq]
   have:∀ l:List NodeL,(∀ x∈l,x∈n.kids)->(l.map NodeL.cnt).sum<=(l.map NodeL.wt).sum:=by
    intro l
    induction l with
    | nil=>intro _; exact rAR _
    | cons a l ihl =>
      intro hl;have h1:=ih a (by have:=NodeL.sizeOf_kid (hl a zsm); omega);have h2:=ihl fun x hx=>hl x (rBC _ hx)
      rw[rBM,rBM,List.sum_cons,List.sum_cons]; omega
   have:=this n.kids fun _ h=>h
   omega
open Go.RowKit
def uGF(l:Nat)(J:Act->World->Prop)(Q:Exit->Act->World->Prop):Exit->Act->World->Prop
 | .goto l',a,w=>l'=l/\J a w
 | e,a,w=>Q e a w
section
variable {P:Program}
theorem zMM{F:Fence}{n:Nat}{Q:Exit->Act->World->Prop}{a:Act}{w:World}{c rest:Code}(l:Nat)(R:Nat->Act->World->Prop)(hf:findLabel c l=some rest)
 (first:c.wpIn F n P (uGF l (fun a' w'=>∃ m,R m a' w') Q) a w)
 (pass:∀ m a w,R m a w->rest.wpIn F n P (uGF l (fun a' w'=>∃ m',m'<m/\R m' a' w') Q) a w):(Code.scope c).wpIn F n P Q a w:=by
 intro b k cs hro hb hr;have h0:(lone (b.atR a (.code (.scope c)::k)) cs w).fenced P F:=fenced_calm hb hr rfl;have hg:gotoIn l (.inScope c::k)=some (.code rest::.inScope c::k):=by simp[gotoIn,hf]
 have hx:∀ id,exitTo id (.inScope c::k)=exitTo id k:=fun id=>by simp[exitTo]
 have key:∀ m a w,R m a w->∃ e a' w',Q e a' w'/\ArrivesIn (Machine.fenced P F) P (lone (b.atR a (.code rest::.inScope c::k)) cs w) b k cs e a' w':=by
  intro m
  induction m using Nat.strongRecOn with
  | _ m ih =>
    intro a w hR;obtain⟨e,a₁,w₁,hq,harr⟩:=pass m a w hR b (.inScope c::k) cs hro hb hr;cases e with
    | normal=>exact⟨.normal,a₁,w₁,hq,StepsIn.trans harr (.one (fenced_calm hb hr rfl) zF1)⟩
    | exit id=>exact⟨.exit id,a₁,w₁,hq,fun k' hk=>harr.1 k' (by rw[hx]; exact hk),fun hr' hk=>harr.2 hr' (by rw[hx]; exact hk)⟩
    | goto l' =>
      obtain⟨rfl,m',hlt,hR'⟩:=hq;obtain⟨e₂,a₂,w₂,hq₂,harr₂⟩:=ih m' hlt a₁ w₁ hR';exact⟨e₂,a₂,w₂,hq₂,.of_steps (harr.1 _ hg) harr₂⟩
    | ret=>exact⟨_,a₁,w₁,hq,harr⟩
    | panic ch=>exact⟨_,a₁,w₁,hq,harr⟩
    | outgrown=>exact⟨_,a₁,w₁,hq,harr⟩
 obtain⟨e,a₁,w₁,hq,harr⟩:=first b (.inScope c::k) cs hro hb hr;cases e with
 | normal=>exact⟨.normal,a₁,w₁,hq,.head h0 zBG (StepsIn.trans harr (.one (fenced_calm hb hr rfl) zF1))⟩
 | exit id=>exact⟨.exit id,a₁,w₁,hq,fun k' hk=>.head h0 zBG (harr.1 k' (by rw[hx]; exact hk)),
  fun hr' hk=>let ⟨k₁,h1,h2⟩:=harr.2 hr' (by rw[hx]; exact hk); ⟨k₁,h1,.head h0 zBG h2⟩⟩
 | goto l' =>
   obtain⟨rfl,m,hR⟩:=hq;obtain⟨e₂,a₂,w₂,hq₂,harr₂⟩:=key m a₁ w₁ hR;exact⟨e₂,a₂,w₂,hq₂,.of_steps (.head h0 zBG (harr.1 _ hg)) harr₂⟩
 | ret=>exact⟨_,a₁,w₁,hq,.of_steps (.one h0 zBG) harr⟩
 | panic ch=>exact⟨_,a₁,w₁,hq,.of_steps (.one h0 zBG) harr⟩
 | outgrown=>exact⟨_,a₁,w₁,hq,.of_steps (.one h0 zBG) harr⟩
variable {T:Ti} {G:Gl} {N n0:Nat} {Q:Exit->St->Mp->Prop} {s:St} {μ:Mp}
theorem vLJ{c:Code}(h:wpM P G N n0 c Q s μ)(E0 F:Env)(T:Nat->Prop)(df:List Deferred)(a:Act)(w:World)(A:Nat->Prop)(κ:Ka)(hn:F.n0=n0)(hR:RelM E0 F T G N df s μ a w A κ) :
 c.wpIn (Wd none) 0 P (fun e a' w'=>∃ s' μ' A' κ',RelM E0 F T G N df s' μ' a' w' A' κ'/\Q e s' μ') a w:=by
 unfold wpM at h;exact h E0 F T df a w A κ hn hR
theorem vTU{c:Code}(h:∀ (E0 F:Env) (T:Nat->Prop) (df:List Deferred) (a:Act) (w:World) (A:Nat->Prop) (κ:Ka),F.n0=n0->RelM E0 F T G N df s μ a w A κ ->
 c.wpIn (Wd none) 0 P (fun e a' w'=>∃ s' μ' A' κ',RelM E0 F T G N df s' μ' a' w' A' κ'/\Q e s' μ') a w):wpM P G N n0 c Q s μ:=by
 unfold wpM;exact h
theorem zNC{c rest:Code}{ι:Type}(l:Nat)(S:ι->St)(Inv:ι->Prop)(me:ι->Nat)(hf:findLabel c l=some rest)
 (first:wpM P G N n0 c (fun e s' μ'=>match e with
   | .goto l'=>l'=l/\μ'=μ/\∃ i,Inv i/\LeS G n0 s' (S i)
   | e=>Q e s' μ') s μ)
 (pass:∀ i,Inv i->wpM P G N n0 rest (fun e s' μ'=>match e with
   | .goto l'=>l'=l/\μ'=μ/\∃ i',(Inv i'/\me i'<me i)/\LeS G n0 s' (S i')
   | e=>Q e s' μ') (S i) μ):wpM P G N n0 (.scope c) Q s μ:=vTU fun E0 F T df a w A κ hn hR=>by
 refine zMM l (fun m a w=>∃ i A κ,Inv i/\me i=m/\RelM E0 F T G N df (S i) μ a w A κ) hf (wpIn_mono (vLJ first E0 F T df a w A κ hn hR) fun e a' w' ⟨s',μ',A',κ',h1,h2⟩=>?_) fun m a w ⟨i,A,κ,hi,hm,hR⟩=>wpIn_mono (vLJ (pass i hi) E0 F T df a w A κ hn hR) fun e a' w' ⟨s',μ',A',κ',h1,h2⟩=>?_
 .cases e with
  | goto l' =>
    obtain⟨q1,q2,i,q3,q4⟩:=h2;subst q2;obtain⟨A1,κ1,hR1⟩:=h1.le hn q4;exact⟨q1,me i,i,A1,κ1,q3,rfl,hR1⟩
  | _=>exact⟨s',μ',A',κ',h1,h2⟩
 .subst hm
  cases e with
  | goto l' =>
    obtain⟨q1,q2,i',⟨q3,q5⟩,q4⟩:=h2;subst q2;obtain⟨A1,κ1,hR1⟩:=h1.le hn q4;exact⟨q1,me i',q5,i',A1,κ1,q3,rfl,hR1⟩
  | _=>exact⟨s',μ',A',κ',h1,h2⟩
structure FnOkJ(P:Program)(f:FuncId)(fn:Func)(c:Code)(rs:List ResultVar)(nt:Nat):Prop where
 hf:P.funcs[f]?=some fn
 hb:fn.body=some c
 hn : fn.name ≠ "runtime.NumGoroutine"
 ht:fn.ntmps=nt
 hr:fn.results=rs.toArray
 rfits:rs.all (vDZ nt)=true
theorem FnOkJ.callable{f:FuncId}{fn:Func}{c:Code}{rs:List ResultVar}{nt:Nat}(h:FnOkJ P f fn c rs nt):Go.PI.callable P f=true:=by
 simp[Go.PI.callable,h.hf,h.hb,h.hn]
theorem vTI{f:FuncId}{fn:Func}{c:Code}{rs:List ResultVar}{nt:Nat}(ok:FnOkJ P f fn c rs nt){ds:List PV}(hl:ds.length<=nt){K:PV->St->Mp->Prop}{s:St}{μ:Mp}
 (h:wpM P G nt s.nx c (vEZ P rs K) { s with t:=vEA ds } μ):FnM P G f ds K s μ:=by
 refine⟨ok.callable,fun E0 E T w A κ vs h1 h2 h3 h4 g X H h6 h7=>?_⟩;have H1:=H.m0' (M0:=E.M) fun D hD=>rAW hD
 refine callsIn_wd (ro:=none) (n:=0).1 (callsIn_of_wp_marks ok.hf ok.hb trivial ?_);rw[ok.ht];obtain⟨hsz,htm⟩:=vH2 h7 hl
 have hR:RelM E0 { E with M0:=E.M } T G nt [] { s with t:=vEA ds } μ { tmps:=vs.toArray++Array.replicate (nt - vs.toArray.size) undef,defers:=[] } w A κ :=
  ⟨⟨g.out,g.nd⟩,{ E with M0:=E.M },⟨X.obj,X.s,X.wr,X.keep,X.bel,X.w0,X.gi,X.w0S⟩,rfl,H1,h6,Nat.le_of_eq h1,htm,hsz,[],rfl,rfl⟩
 refine wpIn_mono (vLJ h E0 { E with M0:=E.M } T [] _ w A κ h1 hR) fun e a' w' ⟨s',μ',A',κ',⟨g',E',X',hF',hR'⟩,hq⟩=>?_
 have fin:(∃ v,vFE P rs s'=some v/\K v s' μ')->LeavesInM (Wd none) 0 P fn a'.tmps (fun e w'=>∃ v pv A' κ' s' μ' E',e=.returned v/\E'.re E=E'/\E'.M=E.M/\MG E E0 T μ'/\MX E0 T μ' E'/\HR E' G w' A' κ' s'.h s'.z/\vDA s'.nx κ' s'.h s'.z/\s.nx<=s'.nx/\RV w' A' κ' pv v/\K pv s' μ') a'.defers .returning w':=by
  rintro⟨v,hv,hK⟩
  obtain⟨Ms,hMs,hd⟩:=hR'.df;rw[hd,rBQ];obtain⟨S,Wr,ws,w0,M,gi,rfl⟩:=zH9 hF';refine zFZ ok.hr ok.rfits hv Ms _ w' a' hMs hR'.hr hR'.fresh hR'.n0 hR'.tm hR'.size fun w'' u q1 q2=>⟨u,v,A',κ',s',μ',{ E with S:=S,Wr:=Wr,ws:=ws,w0:=w0,gi:=gi },rfl,rfl,rfl,⟨g'.out,g'.nd⟩,⟨X'.obj,X'.s,X'.wr,X'.keep,X'.bel,X'.w0,X'.gi,X'.w0S⟩,?_,hR'.fresh,?_,q2,hK⟩
  .exact HR.m0 (E:={ E with S:=S,Wr:=Wr,ws:=ws,w0:=w0,gi:=gi }) (M0:=E.M) H.kp.mk0 q1
  .have:=hR'.n0
   rw[<- h1]; exact this
 cases e with
 | normal=>exact fin hq
 | ret=>exact fin hq
 | _=>exact hq.elim
theorem uOR{f:FuncId}{fn:Func}{c:Code}{rs:List ResultVar}{nt:Nat}(ok:FnOkJ P f fn c rs nt){ds:List PV}(hl:ds.length<=nt){K:PV->St->Mp->Prop}{t:Tm}{h:Hp}{z:Fz}{nx:Nat}
 (hv:wpM P G nt nx c (vEZ P rs K) ⟨uAP ds,h,z,nx⟩ μ):FnM P G f ds K ⟨t,h,z,nx⟩ μ :=
 vTI ok hl (s:=⟨t,h,z,nx⟩) (by rw[<- zH4]; exact hv)
def vQ5(P:Program)(rs:List ResultVar)(K:PV->St->Mp->Prop)(μ:Mp)(l:Nat)(J:St->Prop):Exit->St->Mp->Prop
 | .goto l',s,μ'=>l'=l/\μ'=μ/\J s
 | e,s,μ'=>vEZ P rs K e s μ'
theorem vTW(hm:P.follows .mixedOrders=true)(hT:∀ i x,T i=some x->vA6 P i=x){r0 x:Code}{l:Nat}{rs:List ResultVar}{K:PV->St->Mp->Prop}{ι:Type}(L:ι->List (Nat×PV))(H:ι->List (Nat×Blk))(Z:List Nat)(k:Nat)(Inv:ι->Prop)(me:ι->Nat)
 (hf0:vBU N r0=true) (hk:n0<=k) (hZ:∀ r∈Z,r<k)
 (h0:VC P T G n0 r0 (onN fun s'=>∃ i,Inv i/\Kept n0 s' (L i) (H i) Z k) s)
 (pass:∀ i,Inv i->wpM P G N n0 x (vQ5 P rs K μ l (fun s'=>∃ i',(Inv i'/\me i'<me i)/\Kept n0 s' (L i') (H i') Z k)) ⟨sv (L i),hv (H i),zv Z,k⟩ μ) :
 wpM P G N n0 (.seq r0 (.scope (.seq (.label l) x))) (vEZ P rs K) s μ:=by
 refine zAW (zO0 hm hf0 (zHF hT (fun e s' h=>?_) h0));cases e with
 | normal =>
   obtain⟨i,hi,hs⟩:=h;refine⟨_,hs.le hk hZ,?_⟩;refine zNC (rest:=.seq .skip x) l (fun i=>⟨sl (L i),hl (H i),zl Z,k⟩) Inv me (by simp[findLabel]) ?_ fun i hi=>?_
   .refine zAW (vTT ⟨_,fun E N df a w A κ _ hR=>⟨A,κ,hR⟩,?_⟩)
    refine vGG (fun e s' μ' h=>?_) (by have:=pass i hi; rw[zMO,zHE,zHD]at this; exact this);cases e with
    | goto l'=>exact⟨h.1,h.2.1,h.2.2.elim fun i' h=>⟨i',h.1.1,h.2.le hk hZ⟩⟩
    | _=>exact h
   .refine zAW (zJF ⟨_,fun E N df a w A κ _ hR=>⟨A,κ,hR⟩,?_⟩)
    refine vGG (fun e s' μ' h=>?_) (by have:=pass i hi; rw[zMO,zHE,zHD]at this; exact this);cases e with
    | goto l'=>exact⟨h.1,h.2.1,h.2.2.elim fun i' h=>⟨i',h.1,h.2.le hk hZ⟩⟩
    | _=>exact h
 | _=>exact h.elim
theorem uAW(hm:P.follows .mixedOrders=true)(hT:∀ i x,T i=some x->vA6 P i=x){x y:Code}{rs:List ResultVar}{K:PV->St->Mp->Prop}{l:Nat}{J:St->Prop}{μ0:Mp}(hf:vBU N x=true)
 (h:VC P T G n0 x (fun e s'=>match e with
   | .normal=>∃ s'',LeS G n0 s' s''/\wpM P G N n0 y (vQ5 P rs K μ0 l J) s'' μ
   | e=>vNZ T rs (fun v s'=>K v s' μ) e s') s):wpM P G N n0 (.seq x y) (vQ5 P rs K μ0 l J) s μ :=
 zAW (zO0 hm hf (zHF hT (fun e s h=>by
  cases e with
  | normal=>exact h
  | ret=>exact zB9 hT h
  | _=>exact h.elim) h))
theorem uA0(hm:P.follows .mixedOrders=true)(hT:∀ i x,T i=some x->vA6 P i=x){c:Code}{rs:List ResultVar}{K:PV->St->Mp->Prop}{l:Nat}{J:St->Prop}{μ0:Mp}(hf:vBU N c=true)(h:VC P T G n0 c (vNZ T rs (fun v s'=>K v s' μ)) s):wpM P G N n0 c (vQ5 P rs K μ0 l J) s μ :=
 zO0 hm hf (zHF hT (fun e s h=>by
  have:=zB9 hT h
  cases e<;>first | exact this | exact this.elim) h)
end
instance dec_okT (ts:List TermL) (n:Int) (i:Nat):Decidable (okT ts n i):=by unfold okT; exact inferInstance
instance dec_ValidF (f:AffL) (n:Int):Decidable (vB8 f n):=by unfold vB8; exact inferInstance
instance dec_VaG (g:GraL):Decidable (VaG g):=by unfold VaG; exact inferInstance
instance dec_smF (f:AffL):Decidable (smF f):=by unfold smF; exact inferInstance
instance dec_smFs (l:List AffL) (m:Int):Decidable (uOU l m):=by unfold uOU; exact inferInstance
instance dec_smG (g:GraL):Decidable (smG g):=by unfold smG; exact inferInstance
def uQ0(a b:QF):Bool:=decide (a.ts=b.ts) && decide (a.c=b.c)
theorem uJ7{a b:QF}(h:uQ0 a b=true):a=b:=by
 cases a; cases b; simp only[uQ0,rAO,rAY]at h; obtain⟨rfl,rfl⟩:=h; rfl
def E1:QF:=⟨[(0,1)],0⟩
def E2:QF:=⟨[(0,-1)],1⟩
def E3:QF:=⟨[(1,2),(2,1)],0⟩
theorem sz1(z:Int)(h:z.natAbs<4294967296):sz 2 (z:Rat):=zI1 zdd (zE7 h)
theorem Q_L(f:QF):f.L.Q=f:=by
 unfold QF.L AffL.Q;simp only[rCQ,zBW];rw[show((fun t:TermL=>(t.var,qv t.coef))∘tQ)=id from by funext t; simp[tQ,zBW],rEV]
instance dec_okBd (r:RegL) (i:Nat):Decidable (uLP r i):=by unfold uLP; exact inferInstance
instance dec_VaR (r:RegL) (n:Int):Decidable (VaR r n):=by unfold VaR; exact inferInstance
instance dec_VaQ (q:QryL):Decidable (VaQ q):=by unfold VaQ; exact inferInstance
instance dec_RatZ (r:RatL):Decidable (uOO r):=by unfold uOO; exact inferInstance
instance dec_CanR (r:RatL):Decidable (vE0 r):=by unfold vE0; exact inferInstance
instance dec_fitD (q:QryL) (d:DecL):Decidable (vFH q d):=by unfold vFH; exact inferInstance
instance dec_lessR (a b:RowL):Decidable (vET a b):=by unfold vET; exact inferInstance
instance dec_okM1 (S:ScpL) (l:List MultL) (k:Nat):Decidable (uDC S l k):=by unfold uDC; exact inferInstance
instance dec_okM (S:ScpL) (l:List MultL) (i:Nat):Decidable (okM S l i):=by unfold okM; exact inferInstance
instance dec_prvP (S:ScpL) (f:QF) (l:List MultL):Decidable (vGA S f l):=by unfold vGA; exact inferInstance
def zD:DecL:=⟨0,0,⟨false,[],[]⟩⟩
theorem mm1(a:Int):∀ m∈[(⟨⟨a,0,0,0⟩,cr 1⟩:MultL)],∃ k,m=⟨⟨k,0,0,0⟩,cr 1⟩:=fun m hm=>by rw[rBI.1 hm]; exact⟨_,rfl⟩
def vD1(l:List MultL):NodeL:=.mk [] zD [] false l
def mE(k:Int):MultL:=⟨⟨k,0,0,0⟩,cr 1⟩
def dE:DecL:=⟨1,0,⟨false,[],[]⟩⟩
theorem vSW{S:ScpL}{l:List MultL}(h:vGA S S.q.goal.Q l):vCJ S (vD1 l):=by
 refine⟨fun i hi=>absurd hi (by show ¬ i<0; omega),?_⟩;rw[rAU (show(vD1 l).kids.length=0 from rfl),rAM (show ¬ ((vD1 l).empty=true) by show ¬ (false=true); decide)];have e:vBW S (vD1 l).lemmas=S:=by unfold vBW; show(⟨S.q,S.path,S.lems++[]⟩:ScpL)=S; rw[rBQ]
 rw[e]; exact h
theorem zPQ(l:List MultL):(vD1 l).kids.length=0:=rfl
theorem uDU(l:List MultL):(vD1 l).wt=1+l.length:=by rw[NodeL.wt_eq]; simp[vD1,NodeL.lemmas,NodeL.proof,NodeL.kids]
theorem vX9(f:NodeL->Nat)(l:List MultL):(vD1 l).tot f=f (vD1 l):=by rw[NodeL.tot_eq]; simp[vD1,NodeL.kids]
theorem uP0(k:Int):okR (mE k).coef:=zBE 1
theorem uP1(k:Int):lQ (mE k).coef<=2:=by
 have h:=zBM (k:=1) (q:=1) (zE7 (z:=1) zdd);unfold lQ mE; simp only; omega
theorem vPT(l:List MultL)(h:∀ m∈l,∃ k,m=mE k):(vD1 l).NOk:=.mk _ (fun m hm=>by cases hm) (by show okR zD.rat; exact⟨zD9,zD9⟩) (fun p hp=>by obtain⟨k,rfl⟩:=h p hp; exact uP0 k) (fun k hk=>by cases hk)
theorem uL7(k:Int):(mE k).sm:=by
 have h:=zBM (k:=1) (q:=1) (zE7 (z:=1) zdd);exact⟨by show(cr 1).num.length<_; omega,by show(cr 1).den.length<_; omega⟩
theorem vPS(l:List MultL)(hl:l.length<10)(h:∀ m∈l,∃ k,m=mE k):(vD1 l).Sm:=.mk _ ⟨by show 0<_; decide,fun m hm=>by cases hm⟩ ⟨by show 0<_; decide,by show 0<_; decide⟩ (by show 0<_; decide) (fun k hk=>by cases hk) ⟨by show l.length<_; omega,fun p hp=>by obtain⟨k,rfl⟩:=h p hp; exact uL7 k⟩
theorem uDV(l:List MultL)(h:∀ m∈l,∃ k,m=mE k):(vD1 l).bk<=3 * l.length:=by
 unfold NodeL.bk;rw[vX9]
 have:sC l<=3 * l.length:=by
  unfold sC
  have:∀ l:List MultL,(∀ m∈l,∃ k,m=mE k)->(l.map fun m=>lQ m.coef+1).sum<=3 * l.length:=by
   intro l
   induction l with
   | nil=>intro _; exact rAR _
   | cons a l ih =>
     intro h;obtain⟨k,rfl⟩:=h a zsm;have:=ih fun m hm=>h m (rBC _ hm)
     have:=uP1 k;rw[rBM,List.sum_cons,List.length_cons]; omega
  exact this l h
 have e:spF (vD1 l)+vlF (vD1 l)+coF (vD1 l)=sC l:=by
  show 0+0+(0+sC l)=sC l; omega
 omega
def qT:QryL:=⟨⟨1,[(vCN 0).L],[(vCN 0).L]⟩,⟨[cr 1],[cr 2],[]⟩,(vCN 0).L⟩
def leafT:NodeL:=vD1 [mE 1]
def nT:NodeL:=.mk [] dE [leafT,leafT] false []
def zL:LemL:=⟨0,false,⟨false,[],[]⟩,[]⟩
def mT(k:Int):MultL:=⟨⟨11,0,k,0⟩,cr 1⟩
def wT:NodeL:=.mk [zL,zL] zD [] false [mT 2]
def wT':NodeL:=.mk [zL] zD [] false [mT 1]
theorem uPR:VaQ qT:=by decide +kernel
theorem uP6:qT.goal.Q=⟨[(0,1)],0⟩:=by
 unfold qT; simp only[Q_L]; exact uJ7 (by decide +kernel)
theorem zLR:nT.kids=[leafT,leafT]:=rfl
theorem vX8{p:List DecL}(h:vGA ⟨qT,p,[]⟩ ⟨[(0,1)],0⟩ [mE 1]):vBE ⟨qT,p,[]⟩ leafT=none:=by
 refine zEE (vSW ?_) rfl;show vGA ⟨qT,p,[]⟩ qT.goal.Q _
 rw[uP6];exact h
theorem uJV:vBE ⟨qT,[],[]⟩ leafT=none:=vX8 (by decide +kernel)
theorem uJU:vBE ⟨qT,[dE],[]⟩ leafT=none:=vX8 (by decide +kernel)
theorem uJT:vBE ⟨qT,[vTN dE],[]⟩ leafT=none:=vX8 (by decide +kernel)
theorem uDK:vCJ ⟨qT,[],[]⟩ nT:=⟨fun i hi=>absurd hi (by show ¬ i<0; omega),by rw[rAM zdd]; show vFH qT dE; decide +kernel⟩
theorem uFB:vBE ⟨qT,[],[]⟩ nT=none:=by
 rw[zCC uDK zLR,show nT.split=dE from rfl,show vCU ⟨qT,[],[]⟩ nT dE=⟨qT,[dE],[]⟩ from rfl,uJU];exact uJT
theorem uM9:nT.cnt=3:=by
 rw[vH7 (n:=nT) rfl,show nT.kids[0]! = leafT from rfl,show nT.kids[1]! = leafT from rfl,show leafT.cnt=1 from zG3 (zPQ _)]
theorem uDJ:nT.valid=true:=by
 have hf:vBH 2048 nT=true:=by
  rw[zCV (n:=nT) rfl,show nT.kids[0]! = vD1 [mE 1] from rfl,show nT.kids[1]! = vD1 [mE 1] from rfl,zBI (zPQ _)];rfl
 simp[NodeL.valid,uM9,hf]
theorem uA2:wT.valid=true:=by
 have hf:vBH 2048 wT=true:=by rw[zBI (n:=wT) rfl]; rfl
 have hc:wT.cnt=1:=zG3 (n:=wT) rfl;simp[NodeL.valid,hc,hf]
theorem uPW:nT.NOk:=.mk _ (fun m hm=>by cases hm) (by show okR dE.rat; exact⟨zD9,zD9⟩) (fun p hp=>by cases hp) (fun k hk=>by
 rw[zLR]at hk;rcases rBA.1 hk with rfl | hk
 .exact vPT _ (mm1 1)
 .rw[rBI.1 hk]; exact vPT _ (mm1 1))
theorem uPU:nT.Sm:=.mk _ ⟨zdd,fun m hm=>by cases hm⟩ ⟨zdd,zdd⟩ zdd (fun k hk=>by
 rw[zLR]at hk;rcases rBA.1 hk with rfl | hk
 .exact vPS _ zdd (mm1 1)
 .rw[rBI.1 hk]; exact vPS _ zdd (mm1 1)) ⟨zdd,fun p hp=>by cases hp⟩
theorem uM8:nT.wt=5:=by
 rw[NodeL.wt_eq,zLR];simp only[rBM,rEQ,leafT,uDU]; rfl
theorem uPX:nT.bk<=9:=by
 have e:nT.bk=0+([leafT,leafT].map NodeL.bk).sum:=by
  unfold NodeL.bk; rw[NodeL.tot_eq,zLR]; rfl
 have h1:leafT.bk<=3 * 1:=uDV [mE 1] (mm1 1);simp only[rBM,rEQ,List.sum_cons,List.sum_nil]at e;omega
theorem uO7:wT.Sm:=.mk _ ⟨zdd,fun m hm=>by
 rcases rBA.1 hm with rfl | hm
 .exact⟨⟨zdd,zdd⟩,zdd,fun p hp=>by cases hp⟩
 .rw[rBI.1 hm]; exact⟨⟨zdd,zdd⟩,zdd,fun p hp=>by cases hp⟩⟩ ⟨zdd,zdd⟩ zdd (fun k hk=>by cases hk) ⟨zdd,fun p hp=>by
 rw[rBI.1 hp]; exact uL7 1⟩
theorem uO6:wT.wt=4:=by
 rw[NodeL.wt_eq]; rfl
theorem uLY:vC3 wT 0 []=wT':=by
 have e:ownB wT.lemmas wT.kids wT.proof 0=[false,true]:=by decide +kernel
 show vC3 (.mk [zL,zL] zD [] false [mT 2]) 0 []=_
 unfold vC3;rw[show ownB [zL,zL] [] [mT 2] 0=[false,true] from e];rfl
theorem zP5{S:ScpL}{v j:Int}{up:Bool}{q:Rat}(h:vC2 S v j up=some q):1<=v/\v<=S.lems.length:=by
 unfold vC2 at h
 split at h
 .rename_i h0; exact⟨h0.1,h0.2.1⟩
 .cases h
def vYD(n:Nat)(v:Int):Prop:=v=0\/(1<=v/\v<=n)
theorem uF1{S:ScpL}{r:RowL}(h:onB S r=true):vYD S.lems.length r.lo/\vYD S.lems.length r.hi:=by
 unfold onB at h;simp only[rAO,rCE,rAY]at h;refine⟨?_,rAW h.1⟩;rcases h.2 with h | h
 .exact rAW h.1
 .cases hb:vC2 S r.lo r.index false with
  | none=>rw[hb]at h; cases h
  | some q=>exact rA0 (zP5 hb)
theorem vXO{S:ScpL}{r:RowL}(h:vPB S r=true):vYD S.lems.length r.lo/\vYD S.lems.length r.hi:=by
 unfold vPB at h;simp only[rAO,rCE,rAY]at h;refine⟨rAW h.1,?_⟩;rcases h.2 with h | h
 .exact rAW h.1
 .cases hb:vC2 S r.hi r.index true with
  | none=>rw[hb]at h; cases h
  | some q=>exact rA0 (zP5 hb)
theorem zL5{S:ScpL}{r:RowL}{f:QF}(h:vDB S r=some f):vYD S.lems.length r.lo/\vYD S.lems.length r.hi:=by
 unfold vDB at h;rcases zAM h with⟨_,h⟩ | ⟨_,h⟩
 .unfold inO at h
  rcases zAM h with⟨_,h⟩ | ⟨h0,h⟩
  .cases h
  .have:r.lo=0/\r.hi=0:=by
    constructor<;>refine rCG fun e=>h0 ?_<;>simp[e]
   exact⟨rAW this.1,rAW this.2⟩
 .unfold unO at h
  rcases zAM h with⟨_,h⟩ | ⟨_,h⟩
  .cases h
  rcases zAM h with⟨_,h⟩ | ⟨_,h⟩
  .rcases zAM h with⟨h0,h⟩ | ⟨_,h⟩
   .exact⟨rAW h0.1,rAW h0.2⟩
   .cases h
  rcases zAM h with⟨_,h⟩ | ⟨_,h⟩
  .rcases zAM h with⟨h0,h⟩ | ⟨_,h⟩
   .exact⟨rAW h0.1,rAW h0.2⟩
   .cases h
  rcases zAM h with⟨_,h⟩ | ⟨_,h⟩
  .rcases zAM h with⟨h0,h⟩ | ⟨_,h⟩
   .exact uF1 h0
   .cases h
  rcases zAM h with⟨_,h⟩ | ⟨_,h⟩
  .rcases zAM h with⟨h0,h⟩ | ⟨_,h⟩
   .exact uF1 h0
   .cases h
  rcases zAM h with⟨_,h⟩ | ⟨_,h⟩
  .rcases zAM h with⟨h0,h⟩ | ⟨_,h⟩
   .exact vXO h0
   .cases h
  rcases zAM h with⟨_,h⟩ | ⟨_,h⟩
  .rcases zAM h with⟨h0,h⟩ | ⟨_,h⟩
   .exact vXO h0
   .cases h
  rcases zAM h with⟨_,h⟩ | ⟨_,h⟩
  .cases hb:vC2 S r.lo r.index false with
   | none=>rw[hb]at h; cases h
   | some q =>
     rw[hb]at h;rcases zAM h with⟨h0,h⟩ | ⟨_,h⟩
     .exact⟨rA0 (zP5 hb),rAW h0⟩
     .cases h
  rcases zAM h with⟨_,h⟩ | ⟨_,h⟩
  .cases hb:vC2 S r.hi r.index true with
   | none=>rw[hb]at h; cases h
   | some q =>
     rw[hb]at h;rcases zAM h with⟨h0,h⟩ | ⟨_,h⟩
     .exact⟨rAW h0,rA0 (zP5 hb)⟩
     .cases h
  rcases zAM h with⟨_,h⟩ | ⟨_,h⟩
  .cases hb:vC2 S r.lo r.index false with
   | none=>rw[hb]at h; cases h
   | some q =>
     cases hb2:vC2 S r.hi r.index true with
     | none=>rw[hb,hb2]at h; cases h
     | some q2=>exact⟨rA0 (zP5 hb),rA0 (zP5 hb2)⟩
  .cases h
theorem uHO{S S':ScpL}{r r':RowL}(hq:S'.q=S.q)(hp:S'.path=S.path)(hk:r'.kind=r.kind)(hi:r'.index=r.index)(l0:r'.lo=0↔r.lo=0)(h0:r'.hi=0↔r.hi=0)
 (lb:∀ j up,vC2 S' r'.lo j up=vC2 S r.lo j up) (hb:∀ j up,vC2 S' r'.hi j up=vC2 S r.hi j up):vDB S' r'=vDB S r:=by
 have e1:onB S' r'=onB S r:=by unfold onB vEJ; rw[hi,hp,lb]; simp only[l0,h0]
 have e2:vPB S' r'=vPB S r:=by unfold vPB vEJ; rw[hi,hp,hb]; simp only[l0,h0]
 unfold vDB inO unO;simp only[hk,hi,hq,hp,e1,e2,lb,hb,l0,h0,ne_eq]
structure Sim(S S':ScpL)(R:List Int):Prop where
 q:S'.q=S.q
 path:S'.path=S.path
 len:(S'.lems.length:Int)+R.length=S.lems.length
 rg:∀ r∈R,0<=r/\r<S.lems.length
 at':∀ v:Int,1<=v->v<=S.lems.length->v - 1∉R->1<=vCI R v/\vCI R v<=S'.lems.length/\∀ j up,vC2 S' (vCI R v) j up=vC2 S v j up
 mono:∀ v w:Int,0<=v->v<w->w<=S.lems.length->(v=0\/v - 1∉R)->w - 1∉R->vCI R v<vCI R w
theorem Sim.zero{S S':ScpL}{R:List Int}(h:Sim S S' R):vCI R 0=0:=by
 have:(R.filter fun r=>decide (r+1<0))=[]:=rC0.2 fun r hr=>by
  have:=h.rg r hr; simp; omega
 unfold vCI; rw[this]; rfl
theorem uBG(S:ScpL):Sim S S []:=by
 have e:∀ v,vCI [] v=v:=fun v=>by simp[vCI]
 exact⟨rfl,rfl,zsm,fun r hr=>absurd hr zsm,fun v h1 h2 _=>(by rw[e]; exact⟨h1,h2,fun _ _=>rfl⟩),fun v w _ h _ _ _=>(by rw[e,e]; exact h)⟩
theorem zPB{R X:List Int}{n v:Int}(hX:∀ x∈X,n<=x)(hv:v<=n):vCI (R++X) v=vCI R v:=by
 have:(X.filter fun r=>decide (r+1<v))=[]:=rC0.2 fun r hr=>by
  have:=hX r hr; simp; omega
 unfold vCI;rw[rDV,this,rBQ]
theorem vIE{S:ScpL}{m:LemL}{v:Int}(hv:v<=S.lems.length)(j:Int)(up:Bool):vC2 (vBW S [m]) v j up=vC2 S v j up:=by
 unfold vC2 vBW;by_cases h1:1<=v
 .have e:(S.lems++[m])[v.toNat - 1]! = S.lems[v.toNat - 1]! := by
   rw[rAT _ _ rAE,rAT _ _ zom,rGJ zom]
  have e2:((S.lems++[m]).length:Int)=S.lems.length+1:=by simp
  simp only[e,e2];have:(v<=(S.lems.length:Int)+1)↔v<=S.lems.length:=⟨fun _=>hv,fun _=>by omega⟩;simp only[this]
 .rw[rAM (fun h=>h1 h.1),rAM (fun h=>h1 h.1)]
theorem uFA{S S':ScpL}{m m':LemL}(h1:m'.unit=m.unit)(h2:m'.upper=m.upper)(h3:m'.value=m.value)(j:Int)(up:Bool):vC2 (vBW S' [m']) (S'.lems.length+1) j up=vC2 (vBW S [m]) (S.lems.length+1) j up:=by
 have e:∀ (S:ScpL) (m:LemL),(S.lems++[m])[((S.lems.length:Int)+1).toNat - 1]! = m:=fun S m=>by
  have:((S.lems.length:Int)+1).toNat - 1=S.lems.length:=by omega
  rw[this,rAT _ _ zsm]; simp
 have e2:∀ (S:ScpL) (m:LemL),1<=(S.lems.length:Int)+1/\(S.lems.length:Int)+1<=((S.lems++[m]).length:Nat):=fun S m=>by simp; omega
 unfold vC2 vBW;simp only[e,h1,h2,h3];have a:=e2 S m;have b:=e2 S' m';simp only[a,b,rEM]
theorem uBH{S S':ScpL}{R:List Int}(h:Sim S S' R){m m':LemL}(h1:m'.unit=m.unit)(h2:m'.upper=m.upper)(h3:m'.value=m.value):Sim (vBW S [m]) (vBW S' [m']) R:=by
 have l1:((vBW S [m]).lems.length:Int)=S.lems.length+1:=by simp[vBW]
 have l2:((vBW S' [m']).lems.length:Int)=S'.lems.length+1:=by simp[vBW]
 have hlast:vCI R (S.lems.length+1)=S'.lems.length+1:=by
  have hf:(R.filter fun r=>decide (r+1<(S.lems.length:Int)+1))=R:=List.filter_eq_self.2 fun r hr=>by
   have:=h.rg r hr; simp; omega
  have:=h.len;unfold vCI; rw[hf]; omega
 have key:∀ v:Int,1<=v->v<=(S.lems.length:Int)+1->v - 1∉R->1<=vCI R v/\vCI R v<=S'.lems.length+1/\((v<=S.lems.length->vCI R v<=S'.lems.length)/\∀ j up,vC2 (vBW S' [m']) (vCI R v) j up=vC2 (vBW S [m]) v j up):=fun v v1 v2 v3=>by
  rcases Int.lt_or_le (S.lems.length:Int) v with hv | hv
  .obtain rfl:v=S.lems.length+1:=by omega
   rw[hlast];exact⟨zom,zom,fun h=>by omega,uFA h1 h2 h3⟩
  .obtain⟨g1,g2,g3⟩:=h.at' v v1 hv v3
   exact⟨g1,zom,fun _=>g2,fun j up=>by rw[vIE g2,vIE hv,g3]⟩
 refine⟨h.q,h.path,by have:=h.len; omega,fun r hr=>by have:=h.rg r hr; omega,fun v v1 v2 v3=>?_,fun v w v0 vw wl hv hw=>?_⟩
 .obtain⟨g1,g2,g3,g4⟩:=key v v1 zom v3
  exact⟨g1,zom,g4⟩
 .rcases Int.lt_or_le (S.lems.length:Int) w with hw' | hw'
  .obtain rfl:w=S.lems.length+1:=by omega
   rw[hlast];rcases hv with rfl | hv
   .rw[h.zero]; omega
   .by_cases v1:1<=v
    .obtain⟨_,_,g3,_⟩:=key v v1 zom hv
     have:=g3 zom;omega
    .obtain rfl:v=0:=by omega
     rw[h.zero]; omega
  .exact h.mono v w v0 vw hw' hv hw
theorem uBI{S S':ScpL}{R:List Int}(h:Sim S S' R)(m:LemL):Sim (vBW S [m]) S' (R++[(S.lems.length:Int)]):=by
 have l1:((vBW S [m]).lems.length:Int)=S.lems.length+1:=by simp[vBW]
 have nb:∀ v:Int,v<=S.lems.length->vCI (R++[(S.lems.length:Int)]) v=vCI R v:=fun v hv=>zPB (n:=S.lems.length) (fun x hx=>by rw[rBI.1 hx]; exact rFJ _) hv
 have ins:∀ v:Int,v<=(S.lems.length:Int)+1->v - 1∉R++[(S.lems.length:Int)]->v<=S.lems.length/\v - 1∉R:=fun v hv hn=>by
  simp only[rAX,rBI,not_or]at hn;exact⟨zom,hn.1⟩
 refine⟨h.q,h.path,by have:=h.len; simp only[rAV,List.length_singleton]; omega,fun r hr=>?_,fun v v1 v2 v3=>?_,fun v w v0 vw wl hv hw=>?_⟩
 .rcases rAX.1 hr with hr | hr
  .have:=h.rg r hr; omega
  .rw[rBI.1 hr]; omega
 .obtain⟨a,b⟩:=ins v zom v3
  obtain⟨g1,g2,g3⟩:=h.at' v v1 a b;rw[nb v a];exact⟨g1,g2,fun j up=>by rw[g3,vIE a]⟩
 .obtain⟨a,b⟩:=ins w zom hw
  rw[nb v zom,nb w a];refine h.mono v w v0 vw a ?_ b;rcases hv with hv | hv
  .exact rAW hv
  .exact rA0 (ins v zom hv).2
theorem uHF{S S':ScpL}{R:List Int}(h:Sim S S' R)(d:DecL):Sim ⟨S.q,S.path++[d],S.lems⟩ ⟨S'.q,S'.path++[d],S'.lems⟩ R :=
 ⟨h.q,by show S'.path++[d]=S.path++[d]; rw[h.path],h.len,h.rg,h.at',h.mono⟩
def vKK(R:List Int)(l:List MultL):Prop:=∀ m∈l,(m.row.lo=0\/m.row.lo - 1∉R)/\(m.row.hi=0\/m.row.hi - 1∉R)
theorem vU5{S S':ScpL}{R T:List Int}(h:Sim S S' R)(hT:∀ v:Int,v<=S.lems.length->vCI T v=vCI R v){r:RowL}(hs:(vDB S r).isSome=true)(hf:(r.lo=0\/r.lo - 1∉R)/\(r.hi=0\/r.hi - 1∉R)):vDB S' (vBY T r)=vDB S r:=by
 obtain⟨f,hr⟩:=rBZ.1 hs;obtain⟨r1,r2⟩:=zL5 hr
 have key:∀ v:Int,vYD S.lems.length v->(v=0\/v - 1∉R)->(vCI T v=0↔v=0)/\∀ j up,vC2 S' (vCI T v) j up=vC2 S v j up:=fun v hv hn=>by
  rcases hv with rfl | ⟨v1,v2⟩
  .rw[hT 0 zom,h.zero]
   refine⟨Iff.rfl,fun j up=>?_⟩;unfold vC2;rw[rAM (fun h=>by omega),rAM (fun h=>by omega)]
  .rw[hT v v2]
   obtain⟨g1,g2,g3⟩:=h.at' v v1 v2 (by rcases hn with hn | hn; (· omega); (· exact hn));exact⟨⟨fun e=>by omega,fun e=>by omega⟩,g3⟩
 obtain⟨a1,a2⟩:=key r.lo r1 hf.1;obtain⟨b1,b2⟩:=key r.hi r2 hf.2;exact uHO (r':=vBY T r) h.q h.path rfl rfl a1 b1 a2 b2
theorem uFU{S S':ScpL}{R T:List Int}(h:Sim S S' R)(hT:∀ v:Int,v<=S.lems.length->vCI T v=vCI R v){v w:Int}(hv:vYD S.lems.length v)(hw:vYD S.lems.length w)(nv:v=0\/v - 1∉R)(nw:w=0\/w - 1∉R)(hlt:v<w):vCI T v<vCI T w:=by
 have v0:0<=v/\v<=S.lems.length:=by rcases hv with rfl | hv<;>omega
 have w0:0<=w/\w<=S.lems.length:=by rcases hw with rfl | hw<;>omega
 rw[hT v v0.2,hT w w0.2];refine h.mono v w v0.1 hlt w0.2 nv ?_;rcases nw with rfl | nw
 .omega
 .exact nw
theorem vOD{f:RowL->RowL}{l:List MultL}{k:Nat}(h:k<l.length):(vBL f l)[k]! = ⟨f l[k]!.row,l[k]!.coef⟩:=by
 have hl:k<(vBL f l).length:=by simpa [vBL]using h
 rw[rAT (vBL f l) k hl,rAT l k h];simp[vBL]
theorem vXL{S S':ScpL}{R T:List Int}(h:Sim S S' R)(hT:∀ v:Int,v<=S.lems.length->vCI T v=vCI R v){l:List MultL}(hf:vKK R l)(ho:okM S l l.length):okM S' (vBL (vBY T) l) (vBL (vBY T) l).length:=by
 intro k hk;have hk':k<l.length:=by simpa [vBL]using hk
 have hrow:∀ k,k<l.length->vYD S.lems.length l[k]!.row.lo/\vYD S.lems.length l[k]!.row.hi:=fun k hk=>by
  obtain⟨f,hr⟩:=rBZ.1 (ho k hk).2.2.2;exact zL5 hr
 have hfree:∀ k,k<l.length->(l[k]!.row.lo=0\/l[k]!.row.lo - 1∉R)/\(l[k]!.row.hi=0\/l[k]!.row.hi - 1∉R):=fun k hk=>hf _ (by rw[rAT l k hk]; exact rB3 hk)
 obtain⟨o1,o2,o3,o4⟩:=ho k hk';unfold uDC;rw[vOD hk'];refine⟨o1,o2,fun h0=>?_,?_⟩
 .rw[vOD zom]
  have hlt:=o3 h0;have p1:=hrow (k - 1) zom;have p2:=hrow k hk';have f1:=hfree (k - 1) zom;have f2:=hfree k hk';unfold vET at hlt ⊢;simp only[vBY];rcases hlt with hlt | ⟨e1,hlt | ⟨e2,hlt | ⟨e3,hlt⟩⟩⟩
  .exact rAW hlt
  .exact rA0 ⟨e1,rAW hlt⟩
  .exact rA0 ⟨e1,rA0 ⟨e2,rAW (uFU h hT p1.1 p2.1 f1.1 f2.1 hlt)⟩⟩
  .exact rA0 ⟨e1,rA0 ⟨e2,rA0 ⟨by rw[e3],uFU h hT p1.2 p2.2 f1.2 f2.2 hlt⟩⟩⟩
 .rw[vU5 h hT o4 (hfree k hk')]; exact o4
theorem vGV{S S':ScpL}{R T:List Int}(h:Sim S S' R)(hT:∀ v:Int,v<=S.lems.length->vCI T v=vCI R v){l:List MultL}(hf:vKK R l)(ho:okM S l l.length)(f:QF):vEB S' f (vBL (vBY T) l) (vBL (vBY T) l).length=vEB S f l l.length:=by
 unfold vEB;rw[rBW,rBW];unfold vBL;rw[List.foldl_map]
 have key:∀ (l':List MultL),(∀ m∈l',rw' S' ⟨vBY T m.row,m.coef⟩=rw' S m)->∀ f,l'.foldl (fun x (y:MultL)=>vB3 x (rw' S' ⟨vBY T y.row,y.coef⟩) (- qv y.coef)) f=l'.foldl (fun f m=>vB3 f (rw' S m) (- qv m.coef)) f:=by
  intro l'
  induction l' with
  | nil=>intro _ f; rfl
  | cons a l' ih =>
    intro hl f;simp only[List.foldl_cons];rw[hl a zsm];exact ih (fun m hm=>hl m (rBC _ hm)) _
 refine key l (fun m hm=>?_) f;obtain⟨k,hk,rfl⟩:=rA8 hm;have e:=rAT l k hk;have o4:=(ho k hk).2.2.2;have fk:=hf _ hm;rw[e]at o4;unfold rw';rw[vU5 h hT o4 fk]
theorem vVU{S S':ScpL}{R T:List Int}(h:Sim S S' R)(hT:∀ v:Int,v<=S.lems.length->vCI T v=vCI R v){l:List MultL}(hf:vKK R l){f:QF}(hp:vGA S f l):vGA S' f (vBL (vBY T) l) :=
 ⟨vXL h hT hf hp.1,by rw[vGV h hT hf hp.1]; exact hp.2.1,by rw[vGV h hT hf hp.1]; exact hp.2.2⟩
theorem uHW{S S':ScpL}{R T:List Int}(h:Sim S S' R)(hT:∀ v:Int,v<=S.lems.length->vCI T v=vCI R v){l:List MultL}(hf:vKK R l)(hp:vRO S l):vRO S' (vBL (vBY T) l) :=
 ⟨vXL h hT hf hp.1,by rw[vGV h hT hf hp.1]; exact hp.2.1,by rw[vGV h hT hf hp.1]; exact hp.2.2⟩
theorem vYN{S:ScpL}{R:List Int}{l:List MultL}(ho:okM S l l.length)(hu:∀ k∈vCP l,k<S.lems.length->k∉R):vKK R l:=by
 intro m hm;obtain⟨k,hk,rfl⟩:=rA8 hm;have e:=rAT l k hk;obtain⟨f,hr⟩:=rBZ.1 (ho k hk).2.2.2;rw[e]at hr;obtain⟨r1,r2⟩:=zL5 hr
 have mem:∀ v:Int,(v=l[k].row.lo\/v=l[k].row.hi)->1<=v->v - 1∈vCP l:=fun v hv h1=>by
  unfold vCP;rw[rER];refine⟨l[k],hm,?_⟩;rw[rAX];rcases hv with rfl | rfl
  .left; rw[rAU zom]; simp
  .right; rw[rAU zom]; simp
 constructor
 .rcases r1 with r1 | r1
  .exact rAW r1
  .exact rA0 (hu _ (mem _ (rAW rfl) r1.1) zom)
 .rcases r2 with r2 | r2
  .exact rAW r2
  .exact rA0 (hu _ (mem _ (rA0 rfl) r2.1) zom)
theorem vGS(S:ScpL):vBW S []=S:=by unfold vBW; simp
theorem zJP(S:ScpL)(a b:List LemL):vBW (vBW S a) b=vBW S (a++b):=by unfold vBW; simp
theorem lemsP_cons{S:ScpL}{m:LemL}{l:List LemL}:vHT S (m::l)↔vIM S m/\vHT (vBW S [m]) l:=by
 constructor
 .intro h
  refine⟨by have:=h 0 zsm; rw[List.take_zero,vGS]at this; exact this,fun i hi=>?_⟩;have:=h (i+1) (by simpa using hi);rw[List.take_succ_cons]at this;rw[zJP]
  have e:(m::l)[i+1]! = l[i]! := by
   rw[rAT (m::l) (i+1) (by simpa using hi),rAT l i hi]; rfl
  rw[e]at this;exact this
 .rintro⟨h1,h2⟩ i hi
  cases i with
  | zero=>rw[List.take_zero,vGS]; exact h1
  | succ i =>
    have hi':i<l.length:=by simpa using hi
    have:=h2 i hi';rw[zJP]at this
    have e:(m::l)[i+1]! = l[i]! := by
     rw[rAT (m::l) (i+1) hi,rAT l i hi']; rfl
    rw[e,List.take_succ_cons];exact this
theorem uJR{S S':ScpL}{R T:List Int}(h:Sim S S' R)(hT:∀ v:Int,v<=S.lems.length->vCI T v=vCI R v){m:LemL}(hf:vKK R m.proof)(hp:vIM S m):vIM S' (vC1 (vBY T) m):=by
 obtain⟨h1,h2,h3⟩:=hp;have e:vFT S' (vC1 (vBY T) m)=vFT S m:=by unfold vFT; rw[h.q]; rfl
 refine⟨by rw[h.q]; exact h1,h2,?_⟩;rw[e];exact vVU h hT hf h3
theorem vHS:∀ (l:List LemL) (S S':ScpL) (R u:List Int),Sim S S' R->vHT S l->(∀ k∈(keepR l S.lems.length u).2,k<S.lems.length->k∉R) ->
 vHT S' ((vBS l (keepR l S.lems.length u).1).map (vC1 (vBY (R++vB4 (keepR l S.lems.length u).1 S.lems.length)))) /\
  Sim (vBW S l) (vBW S' ((vBS l (keepR l S.lems.length u).1).map (vC1 (vBY (R++vB4 (keepR l S.lems.length u).1 S.lems.length))))) (R++vB4 (keepR l S.lems.length u).1 S.lems.length) /\
  ∀ k∈u,k<S.lems.length+l.length->k∉R++vB4 (keepR l S.lems.length u).1 S.lems.length
 | [],S,S',R,u,h,hl,hU=>by
   simp only[keepR,vBS,rEQ,vB4,rBQ,vGS,List.length_nil];exact⟨fun i hi=>by simp at hi,h,fun k hk hlt=>hU k hk zom⟩
 | m :: ms,S,S',R,u,h,hl,hU=>by
   obtain⟨hm,hms⟩:=lemsP_cons.1 hl;obtain⟨r,hr⟩:∃ r,keepR ms ((S.lems.length:Int)+1) u=r:=⟨_,rfl⟩;have hlen:((vBW S [m]).lems.length:Int)=S.lems.length+1:=by simp[vBW]
   have hasc:∀ x∈vB4 r.1 ((S.lems.length:Int)+1),(S.lems.length:Int)+1<=x:=fun x hx=>zP7 (zFU _ _) x hx
   by_cases hin:(S.lems.length:Int)∈r.2
   .have ek:keepR (m::ms) S.lems.length u=(true::r.1,r.2++vCP m.proof):=by unfold keepR; rw[hr,rAU hin]
    rw[ek]at hU ⊢;simp only[vB4,vBS,rCI,rBM];obtain⟨T,hTe⟩:∃ T,R++vB4 r.1 ((S.lems.length:Int)+1)=T:=⟨_,rfl⟩
    have hT:∀ v:Int,v<=S.lems.length->vCI T v=vCI R v:=fun v hv=>by
     rw[<- hTe];exact zPB (n:=(S.lems.length:Int)+1) hasc zom
    have hfree:vKK R m.proof:=vYN hm.2.2.1 fun k hk hlt=>hU k (rAX.2 (rA0 hk)) hlt
    have hlm:=uJR h hT hfree hm;have hsim:Sim (vBW S [m]) (vBW S' [vC1 (vBY T) m]) R:=uBH h rfl rfl rfl
    have ih:=vHS ms (vBW S [m]) (vBW S' [vC1 (vBY T) m]) R u hsim hms (by
     rw[hlen,hr];intro k hk hlt;rcases Int.lt_or_le k (S.lems.length:Int) with hk' | hk'
     .exact hU k (rAX.2 (rAW hk)) hk'
     .intro hR
      have:=h.rg k hR
      omega)
    rw[hlen,hr,hTe]at ih;rw[hTe];refine⟨lemsP_cons.2 ⟨hlm,ih.1⟩,?_,fun k hk hlt=>ih.2.2 k hk (by simp only[List.length_cons]at hlt; omega)⟩;have:=ih.2.1;rw[zJP,zJP]at this;exact this
   .have ek:keepR (m::ms) S.lems.length u=(false::r.1,r.2):=by unfold keepR; rw[hr,rAM hin]
    rw[ek]at hU ⊢;simp only[vB4,vBS,rCF,rCL];have hap:R++(S.lems.length:Int)::vB4 r.1 ((S.lems.length:Int)+1)=(R++[(S.lems.length:Int)])++vB4 r.1 ((S.lems.length:Int)+1):=by simp
    rw[hap]
    have ih:=vHS ms (vBW S [m]) S' (R++[(S.lems.length:Int)]) u (uBI h m) hms (by
     rw[hlen,hr];intro k hk hlt;simp only[rAX,rBI,not_or];have hne:k≠(S.lems.length:Int):=fun e=>hin (e ▸ hk)
     exact⟨hU k hk zom,hne⟩)
    rw[hlen,hr]at ih;refine⟨ih.1,?_,fun k hk hlt=>ih.2.2 k hk (by simp only[List.length_cons]at hlt; omega)⟩;have:=ih.2.1;rw[zJP]at this;exact this
end Go.PI
