import Derived.Test.YtlkjdchmeihhkaaGreatDoorSimB
import Derived.Laws.StructEq
import Derived.Lib.ConvBytes
import Derived.Laws.BytesString
import Derived.ClaimOpenTies
import Derived.Leaving
import Derived.Laws.IdiomRangeMap
import Derived.Laws.Strings
set_option linter.all false
set_option autoImplicit true
set_option relaxedAutoImplicit true
set_option autoImplicit true
set_option relaxedAutoImplicit true
namespace Go.Sim
open Go
section
variable {P:Program} {ops:Array Oper} {Q:Exit→Act→World→Prop} {rest:List Oper} {F0:Fz} {n:Nat} {E:List (Nat×SV)} {L:List bM}
variable {d:Nat} {op:Op} {ty:TypeId} {pos:String} {aft:Array Edge} {s:SV}
def Rw (P:Program) (u:TypeId):Bool:=match P.underlying u with|some (.slice _)|some .string=>true|_=>false
theorem vu (h:Rw P u=true):(∃e,P.underlying u=some (.slice e))∨P.underlying u=some .string:=by unfold Rw at h;split at h;rename_i e he;exact .inl ⟨_,he⟩;rename_i he;exact .inr he;cases h
theorem Fo {i:TypeInfo} {z:Value} (ht:P.underlying t=some (.slice e)) (hu:Rw P u=true) (hi:P.info? e=some i) (hz:i.zero=some z) {w:World} {a:List Value} (hv:zD P w i.size v m a) (h0:0<m) (f:(m:Int)≤9223372036854775807) (g:m*i.bytes≤281474976710656):(Builtin.append_ #[t,u] ty #[.slice none 0 0,v]).run P w= .ok (.slice (some ⟨w.heap.size,0,none⟩) m (grownCap w m 0 e)) (w.drew.alloc (.cells (a.toArray++Builtin.zeroCells z.cells (grownCap w m 0 e - m)) e)):=by(have hn:m≠0:=by omega);(have b:¬(9223372036854775807<(m:Int)):=by omega);(have c:¬(281474976710656<Builtin.nextslicecap m 0*i.bytes):=by rw[nextslicecap_zero h0];omega);have hf:=hv.cells w.drew rfl m (IL _);rw[←hv.nl,IY] at hf;have d:=hv.len w;rcases vu hu with⟨e',hu⟩|hu<;>simp[Builtin.append_,IE ht,IE hu,sizeOf,typeInfo,zeroValue,hi,hz,d,hn,b,c,Question.forced,run_firstCells_none,hf,newRow,grownCap]
theorem Fp {u:TypeId} {i:TypeInfo} (ht:P.underlying t=some (.slice e)) (hu:Rw P u=true) (hi:P.info? e=some i) {b:Array Value} {w:World} (hg:w.heap[g]? =some (.cells b e (0,0))) {a:List Value} (hv:zD P w i.size v m a) (h1:∀u∈a,u.oneCell'=true) (hr:sLen+m≤sCap) (d:sLen*i.size+a.length≤b.size):(Builtin.append_ #[t,u] ty #[.slice (some ⟨g,0,none⟩) sLen sCap,v]).run P w= .ok (.slice (some ⟨g,0,none⟩) (sLen+m) sCap) (w.setRow g (b.toList.take (sLen*i.size)++a++b.toList.drop (sLen*i.size+a.length)).toArray):=by have hf:=hv.cells w rfl m (IL _);rw[←hv.nl,IY] at hf;have f:=hv.len w;have c:=run_storeCells_at P g (sLen*i.size) e a 0 b w hg (by simpa using d) h1;simp only[KK] at c;(have h:(⟨g,0,none⟩:Addr).add (sLen*i.size)=⟨g,sLen*i.size,none⟩:=by rw[Je,IX]);rcases vu hu with⟨e',hu⟩|hu<;>simp[Builtin.append_,IE ht,IE hu,sizeOf,typeInfo,hi,f,hr,hf,h,c]
theorem Fq {i:TypeInfo} {z:Value} (ht:P.underlying t=some (.slice e)) (hu:Rw P u=true) (hi:P.info? e=some i) (hz:i.zero=some z) {w:World} {b:Addr} {olds:List Value} (g:olds.length=sLen*i.size) (holds:∀j v,olds[j]? =some v→w.cell? (b.add j)=some v) {a:List Value} (hv:zD P w i.size v m a) (hg:sCap<sLen+m) (l:((sLen+m:Nat):Int)≤9223372036854775807) (k:Builtin.nextslicecap (sLen+m) sCap*i.bytes≤281474976710656):(Builtin.append_ #[t,u] ty #[.slice (some b) sLen sCap,v]).run P w= .ok (.slice (some ⟨w.heap.size,0,none⟩) (sLen+m) (grownCap w (sLen+m) sCap e)) (w.drew.alloc (.cells (olds.toArray++a.toArray++Builtin.zeroCells z.cells (grownCap w (sLen+m) sCap e - (sLen+m))) e)):=by(have hn:¬(sLen+m≤sCap):=by omega);(have c:¬(9223372036854775807<((sLen:Int)+(m:Int))):=by omega);(have d:¬(281474976710656<Builtin.nextslicecap (sLen+m) sCap*i.bytes):=by omega);have hf:=hv.cells w.drew rfl m (IL _);rw[←hv.nl,IY] at hf;have f:=hv.len w;have h:=L7 (P:=P) w.drew i.size sLen b sLen sCap olds g (by simpa using holds);rcases vu hu with⟨e',hu⟩|hu<;>(simp[Builtin.append_,IE ht,IE hu,sizeOf,typeInfo,zeroValue,hi,hz,f,hn,c,d,Question.forced,hf,h,newRow,grownCap];congr 2;apply Array.ext';simp[IR])
theorem C1 {α:Type} {K:Kd α} {z:α} {bytes:Nat} {t u e:TypeId} {v:Value} {xs ys:List α} {F:Fz} {h:dv} {w:World} (hroom:xs.length+ys.length≤dJ) (hT:P.underlying t=some (.slice e)) (hu:Rw P u=true) (he:AT P e K z bytes)
   (hh:(bM.own K v e xs).holds F h) (hon:∀b o,h b=some o→w.heap[b]? =some o) {src:Value} {news:List Value} (hv:zD P w K.n src ys.length news) (hnr:cj K F news ys) (hn1:∀u∈news,u.oneCell'=true):
   ∃v' w' h',(Builtin.append_ #[t,u] ty #[v,src]).run P w= .ok v' w'∧(bM.own K v' e (xs++ys)).holds F h'∧SR w w' h∧(∀b,h' b≠none→h b≠none∨w.heap.size≤b)∧(∀b o,h' b=some o→w'.heap[b]? =some o):=by
 obtain⟨ie,zv,h1,h2,h3,h4,h5,h6,h7⟩:=he.out
 have hzs:zv.cells.size=K.n:=by have:=K.len (h7 F);simpa using this
 have hbytes:(xs.length+ys.length)*ie.bytes≤140737488355328:=by
   have:(xs.length+ys.length)*ie.bytes≤dJ*4096:=KW hroom (by omega)
   unfold dJ at this;omega
 have hmax:xs.length+ys.length≤maxLen:=by unfold dJ at hroom;simp only[maxLen];omega
 have hsmall:xs.length+ys.length≤9223372036854775807:=by simp only[maxLen] at hmax;omega
 have hlen:(xs++ys).length=xs.length+ys.length:=by simp
 have hnl:news.length=ys.length*K.n:=hv.nl
 rw[←h3] at hv
 by_cases hy:ys.length=0
 · have:ys=[]:=IS hy
   subst this
   have hl0:=hv.len w
   have hc0:=hv.cells w rfl 0 (IL _)
   simp only[Mc,Ku] at hc0
   simp only[I7] at hl0
   refine⟨v,w,h,?_,by simpa using hh,⟨rfl,rfl,rfl,λ_ _ _=>rfl⟩,λb hb=> .inl hb,hon⟩
   rcases hh with⟨rfl,rfl,_⟩|⟨g,cap,cur,rfl,_,h8,_⟩
   · rcases vu hu with⟨e',hud⟩|hud<;>simp[Builtin.append_,IE hT,IE hud,sizeOf,typeInfo,h1,hl0,hc0]
   · rcases vu hu with⟨e',hud⟩|hud<;>simp[Builtin.append_,IE hT,IE hud,sizeOf,typeInfo,h1,hl0,hc0,h8,storeCells]
 · have fresh:∀(old:Nat) (olds:List Value),cj K F olds xs→old<xs.length+ys.length→
       (bM.own K (.slice (some ⟨w.heap.size,0,none⟩) (xs.length+ys.length) (grownCap w (xs.length+ys.length) old e)) e (xs++ys)).holds F
         (dv.one w.heap.size (.cells (olds.toArray++news.toArray++Builtin.zeroCells zv.cells (grownCap w (xs.length+ys.length) old e - (xs.length+ys.length))) e (0,0))):=by
     intro old olds ho hlt
     have hge:=grownCap_ge w (xs.length+ys.length) old e
     have hcm:grownCap w (xs.length+ys.length) old e≤maxLen:=grownCap_le_maxLen w (xs.length+ys.length) old e hmax
     have hol:=ho.len
     refine .inr ⟨w.heap.size,_,_,by rw[hlen],rfl,by rw[hlen];exact hge,hcm,?_,?_⟩
     · simp only[Array.size_append,J8,size_zeroCells,hzs,hol,hnl,←Kc]
       congr 1;omega
     · rw[hlen]
       simp only[Array.toList_append]
       have e1:(olds++news).length=(xs.length+ys.length)*K.n:=by rw[Iu,hol,hnl,Kc]
       rw[←e1,J3];exact ho.append hnr
   have alloc:∀(cells:Array Value),SR w (w.drew.alloc (.cells cells e)) h∧(∀b,dv.one w.heap.size (.cells cells e (0,0)) b≠none→h b≠none∨w.heap.size≤b)∧
       (∀b o,dv.one w.heap.size (.cells cells e (0,0)) b=some o→(w.drew.alloc (.cells cells e)).heap[b]? =some o):=by
     intro cells
     obtain⟨a1,a2⟩:=nL w (.cells cells e)
     exact⟨⟨rfl,rfl,rfl,λb hb _=>Lm w _ b hb⟩,λb hb=> .inr (a1 b hb),a2⟩
   rcases hh with⟨rfl,rfl,rfl⟩|⟨g,cap,cur,rfl,rfl,a3,a4,a5,a6⟩
   · have hr:=Fo (ty:=ty) hT hu h1 h2 hv (by omega) (by simp only[I7] at hmax;omega) (by have hb:=hbytes;simp only[I7,IX] at hb;omega)
     have hf:=fresh 0 [] rfl (by simp;omega)
     simp only[I7,IX,Kp,IP] at hf⊢
     exact⟨_,_,_,hr,hf,alloc _⟩
   · have hg:=hon g _ (Mo _ _)
     by_cases hr:xs.length+ys.length≤cap
     · have hfit:xs.length*ie.size+news.length≤cur.size:=by rw[hnl,h3,a5,←Kc];exact Iz _ hr
       have hrun:=Fp (ty:=ty) hT hu h1 hg hv hn1 hr hfit
       refine⟨_,_,dv.one g (.cells (cur.toList.take (xs.length*ie.size)++news++cur.toList.drop (xs.length*ie.size+news.length)).toArray e (0,0)),hrun,.inr ⟨g,cap,_,by rw[hlen],rfl,by rw[hlen];exact hr,a4,?_,?_⟩,
         ⟨rfl,rfl,rfl,λk _ hn=>setRow_other w g k _ (λe=>by rw[e,Mo] at hn;cases hn)⟩,λb hb=> .inl ?_,λb o e'=>?_⟩
       · simp only[J8,Iu,IM,IZ,JP]
         omega
       · rw[hlen]
         have e1:(cur.toList.take (xs.length*ie.size)++news).length=(xs.length+ys.length)*K.n:=by
           rw[Iu,IM,hnl,h3,Kc]
           have:xs.length*K.n≤cur.toList.length:=by simp only[JP,a5];exact Iz _ a3
           omega
         rw[←e1,J3,h3];exact a6.append hnr
       · by_cases hbg:b=g
         · subst hbg;rw[Mo];simp
         · exact absurd (MY _ hbg) hb
       · obtain⟨rfl,rfl⟩:=MT e';exact setRow_heap w b cur _ e _ hg
     · have holds:∀j u,(cur.toList.take (xs.length*K.n))[j]? =some u→w.cell? ((⟨g,0,none⟩:Addr).add j)=some u:=fun j u hu=>by
         have hj:j<xs.length*K.n:=by have:=(It.1 hu).1;rw[a6.len] at this;exact this
         rw[Je,IX,KX w g j cur e (0,0) hg]
         rw[IT hj] at hu;simpa using hu
       have hrun:=Fq (ty:=ty) hT hu h1 h2 (b:=⟨g,0,none⟩) (sLen:=xs.length) (sCap:=cap) (olds:=cur.toList.take (xs.length*K.n)) (by rw[h3];exact a6.len) holds hv (by omega) (by omega) (growslice_fits (by omega) hbytes)
       have hf:=fresh cap _ a6 (by omega)
       exact⟨_,_,_,hrun,hf,alloc _⟩
theorem O2 {α:Type} {K:Kd α} {z:α} {bytes:Nat} {t u e:TypeId} {v:Value} {xs ys:List α} {F:Fz} {w:World} (f:xs.length+ys.length≤dJ) (hT:P.underlying t=some (.slice e)) (hu:Rw P u=true) (he:AT P e K z bytes) (h:St F w (.own K v e xs::L)) {g:Value} {a:List Value} (hv:zD P w K.n g ys.length a) (i:cj K F a ys) (j:∀u∈a,u.oneCell'=true):∃v' w',(Builtin.append_ #[t,u] ty #[v,g]).run P w= .ok v' w'∧St F w' (.own K v' e (xs++ys)::L):=by obtain⟨f0,hh,c,d⟩:=h;have k:∀b o,f0 b=some o→w.heap[b]? =some o:=λb o e=>d.on.blk b o (by have:=c b (by simp[e]);simp[Fz.add,this,e]);obtain⟨v',w',h',r1,r2,r3,r4,r5⟩:=C1 (P:=P) (ty:=ty) f hT hu he hh k hv i j;refine⟨v',w',r1,h',r2,λb hb=>?_,d.change c r3 r4 r5⟩;rcases r4 b hb with x|x;exact c b x;cases e:F.blk b with|none=>rfl|some o=>have:=gp (d.on.blk b o ((F.le_add f0).blk b o e));omega
theorem Od {α:Type} {K:Kd α} {z:α} {bytes:Nat} {t u e:TypeId} {S V:Operand} {v:Value} {xs ys zs:List α} (hz:Go.Sim.app xs ys=some zs) (hT:P.underlying t=some (.slice e)) (hu:Rw P u=true) (he:AT P e K z bytes) (hS:ev E S=some (.raw v)) (hV:ev E V=some s) (hr:Src P s K ys) (hd:Nat.blt d n=true) (k:∀v',bl F0 n ((d,.raw v')::E) (.own K v' e zs::L) (wpList P g Q f)):bl F0 n E (.own K v e xs::L) (wpList P g Q (⟨some d,.call ⟨.builtin .append,#[S,V],#[t,u]⟩,ty,pos,aft,none⟩::f)):=ME rfl λF a w h0 hE c=>by obtain⟨b,rfl⟩:=yT hz;obtain⟨h,e1,e2,e3⟩:=hr.out c.on (hE.eval hV);obtain⟨v',w',r1,hS'⟩:=O2 (P:=P) (ty:=ty) b hT hu he c e1 e2 e3;unfold Oper.wp;simp only[execOp,resolve,invoke,builtin,IC,IJ,Iv,JR,IU,JT,hE.raw hS,r1,Oper.upon];exact k v' F _ _ h0 (hE.put hd (by simp only[SV.ok])) hS'
def Rz (P:Program) (f:FuncId) (a:List SV) (L:List bM) {C:Type} (s:C→SV) (L':C→List bM):Prop:=∀F w vs,SV.oks F vs a→St F w L→Calls P f vs.toArray w λe w'=>∃y G v,e= .returned v∧F≤G∧St G w' (L' y)∧(s y).ok G v
theorem MI {f:FuncId} {X:Operand} {xs:List Operand} {g:Array TypeId} {l:List SV} {C:Type} {s:C→SV} {L':C→List bM} (hc:∀b w,(callFunc f b).run P w= .ok (.enter f b) w) (hX:ev E X=some (.raw (.func (.func f) #[] #[]))) (hx:Uz E xs=some l) (ho:Rz P f l L s L') (hd:Nat.blt d n=true) (k:∀y,bl F0 n ((d,s y)::E) (L' y) (wpList P h Q c)):bl F0 n E L (wpList P h Q (⟨some d,.call ⟨.value X,xs.toArray,g⟩,ty,pos,aft,none⟩::c)):=ME rfl λF a w h0 hE hS=>by have hv:=Nw hE hx;have h1:=ho F w _ hv hS;unfold Oper.wp;simp only[execOp,resolve,hE.raw hX,Deferred.ofValue,invoke,JR,IC,IJ,Iv,Kp,KZ];rw[hc];exact h1.mono λe w' ⟨y,G,v,he,hg,hS',i⟩=>by subst he;exact k y G _ _ (Nj h0 hg) ((hE.mono hg).put hd i) hS'
theorem Rz.intro {f:FuncId} {fn:Func} {c:Code} {a:List SV} {C:Type} {s:C→SV} {L':C→List bM} (m:Nat) (E0:List (Nat×SV)) (hf:P.funcs[f]? =some fn) (hb:fn.body=some c) (hn:fn.ntmps=m) (hl:Nat.ble a.length m=true) (hE:Sl 0 a=E0) (k:∀F0,bl F0 m E0 L (c.wp P (bodyPost P fn λe w'=>∃y G v,e= .returned v∧F0≤G∧St G w' (L' y)∧(s y).ok G v))):Rz P f a L s L':=λF w vs hv hS=>by refine calls_of_wp hf hb ?_;have d:=pz hv;have g:=JV hl;(have he:fn.ntmps - vs.toArray.size=m - a.length:=by simp[hn,d]);rw[he];(have h2:a.length+(m - a.length)=m:=by omega);have b:=On hv (m - a.length);rw[h2,hE] at b;exact k F F _ w (NC F) b hS
def M3:=@Rz.intro
inductive I_ (P:Program) (E:List (Nat×SV)):List ResultVar→List SV→Prop where
 |nil:I_ P E [] []
 |tm {u:Nat} {s:SV} {l:List ResultVar} {ss:List SV} (h:look E u=some s) (r:I_ P E l ss):I_ P E (.tmp u::l) (s::ss)
 |ce {α:Type} {K:Kd α} {u T:Nat} {x:α} {l:List ResultVar} {ss:List SV} (h:look E u=some (.ptr K x)) (hT:KT P T K) (r:I_ P E l ss):I_ P E (.cell u T::l) (.val K x::ss)
def oh:List SV→SV|[s]=>s|l=> .tup l
def Sd (a:Act):ResultVar→Sem Value
 | .tmp t=>pure (a.tmps.getD t undef)
 | .cell b t=>do loadVar t (←asAddr (a.tmps.getD b undef))
theorem I_.run {F:Fz} {a:Act} (hE:Env F a n E) (hS:F.on w):∀{l:List ResultVar} {ss:List SV},I_ P E l ss→∃vs:List Value,(l.mapM (Sd a)).run P w= .ok vs w∧SV.oks F vs ss|_,_,.nil=>⟨[],by simp,by simp only[SV.oks]⟩|_,_,.tm h r=>by obtain⟨v,h1,h2⟩:=hE.at_ _ _ h;obtain⟨vs,h3,h4⟩:=I_.run hE hS r;refine⟨v::vs,?_,by simp only[SV.oks];exact⟨h2,h4⟩⟩;(have e:∀u,a.tmps[u]? =some v→(Sd a (.tmp u)).run P w= .ok v w:=λu hu=>by simp[Sd,Li,hu]);simp only[Mg,IC,IJ,e _ h1,Iv,h3]|_,_,.ce h hT r=>by obtain⟨v,h1,h2⟩:=hE.at_ _ _ h;obtain⟨vs,h3,h4⟩:=I_.run hE hS r;simp only[SV.ok] at h2;obtain⟨p,rfl,hp⟩:=h2;obtain⟨u,hu,hk⟩:=GK hT hS hp;refine⟨u::vs,?_,by simp only[SV.oks,SV.ok];exact⟨hk,h4⟩⟩;(have e:∀u' T,a.tmps[u']? =some (.pointer (some p))→(loadVar T p).run P w= .ok u w→(Sd a (.cell u' T)).run P w= .ok u w:=λu' T b hl=>by simp[Sd,Li,b,asAddr,hl]);simp only[Mg,IC,IJ,e _ _ h1 hu,Iv,h3]
theorem I_.results {F:Fz} {a:Act} {fn:Func} {l:List ResultVar} (hr:fn.results=l.toArray) (hE:Env F a n E) (hS:F.on w) (h:I_ P E l ss):∃v,(Go.results fn a.tmps).run P w= .ok v w∧(oh ss).ok F v:=by
 obtain⟨vs,h1,h2⟩:=I_.run hE hS h
 have hl:=pz h2
 have he:Go.results fn a.tmps=(do let vs←fn.results.mapM (Sd a);pure (if h:vs.size=1 then vs[0] else .tuple vs)):=by
  unfold Go.results
  congr 1
 have h3:(fn.results.mapM (Sd a)).run P w= .ok vs.toArray w:=by
  rw[hr,List.mapM_toArray,Sem.run_map,h1];rfl
 refine⟨if h:vs.toArray.size=1 then vs.toArray[0] else .tuple vs.toArray,by rw[he];simp only[IC,h3,Iv,IJ],?_⟩
 match vs,ss,h2 with
 |[],[],_=>simp only[oh,SV.ok];exact⟨[],by simp,by simp only[SV.oks]⟩
 |[v],[s],h2=>simp only[oh];simp only[SV.oks] at h2;simpa using h2.1
 |v::u::vs,s::t::ss,h2=>simp only[oh,SV.ok];exact⟨v::u::vs,by simp,h2⟩
 |[],_::_,h2=>simp only[SV.oks] at h2
 |_::_,[],h2=>simp only[SV.oks] at h2
 |[_],_::_::_,h2=>simp only[SV.oks] at h2;exact absurd h2.2 (by simp[SV.oks])
 |_::_::_,[_],h2=>simp only[SV.oks] at h2;exact absurd h2.2 (by simp[SV.oks])
theorem Oe {fn:Func} {l:List ResultVar} (hr:fn.results=l.toArray) (h:I_ P E l ss) (he:oh ss=s) (hL:L=L'):bl F0 n E L (bodyPost P fn (λe w'=>∃G v,e= .returned v∧F0≤G∧St G w' L'∧s.ok G v) .ret):=λF a w h0 hE hS=>by subst he;subst hL;obtain⟨v,h1,h2⟩:=h.results hr hE hS.on;exact⟨hE.defers,v,h1,F,v,rfl,h0,hS,h2⟩
theorem OU {fn:Func} {l:List ResultVar} {ss:List SV} {C:Type} {s:C→SV} {L':C→List bM} (y:C) (hr:fn.results=l.toArray) (h:I_ P E l ss) (he:oh ss=s y) (hL:L=L' y):bl F0 n E L (bodyPost P fn (λe w'=>∃y G v,e= .returned v∧F0≤G∧St G w' (L' y)∧(s y).ok G v) .ret):=λF a w h0 hE hS=>by obtain⟨v,h1,h2⟩:=h.results hr hE hS.on;exact⟨hE.defers,v,h1,y,F,v,rfl,h0,hL▸hS,he▸h2⟩
theorem NL {x:Code} (hX:ev E X=some (.raw (.bool true))) (k:bl F0 n E L (x.wp P Q)):bl F0 n E L ((Code.cond X x y).wp P Q):=Nc hX (λ_=>k) (λh=>by cases h)
theorem Nn {y:Code} (hX:ev E X=some (.raw (.bool false))) (k:bl F0 n E L (y.wp P Q)):bl F0 n E L ((Code.cond X x y).wp P Q):=Nc hX (λh=>by cases h) (λ_=>k)
theorem El {m:Nat} (hj:wO J [(d,s)] E=true):∀t v,look ((d,s)::E) t=some v→look ((d,s)::J++E) t=some v:=by intro t v h;rw[de] at h;rw[JS,de];split at h;rename_i hk;rw[Jm hk];exact h;rename_i hk;rw[Jf hk,sA];(have:look [(d,s)] t=none:=by rw[de,Jf hk];rfl);rw[yS hj this h];exact h
theorem O3 (m:Nat) {E1:List (Nat×SV)} (he:s'=s) (hj:wO (E1.take m) [(d,s)] (E1.drop m)=true) (k:bl F0 n ((d,s)::E1.drop m) L X):bl F0 n ((d,s')::E1) L X:=by subst he;refine NZ (λt v h=>?_) k;have:=El (m:=m) hj t v h;rwa [JS,Jl] at this
theorem PF (m:Nat) {E1:List (Nat×SV)} (he:s'=s) (hj:wO (E1.take m) [(d,s)] (E1.drop m)=true) (k:bi F n ((d,s)::E1.drop m) X):bi F n ((d,s')::E1) X:=by subst he;intro a hE;refine k a (hE.sub λt v h=>?_);have:=El (m:=m) hj t v h;rwa [JS,Jl] at this
end
end Go.Sim
namespace Go.Sim
open Go
section
variable {P:Program} {ops:Array Oper} {Q:Exit→Act→World→Prop} {rest:List Oper} {F0:Fz} {n:Nat} {E:List (Nat×SV)} {L:List bM}
variable {d:Nat} {op:Op} {ty:TypeId} {pos:String} {aft:Array Edge} {s:SV}
theorem NM (h:∀F a,Env F a n E→∀w G,F≤G→St G w L→(execOp a.eval o).run P w= .ok (.value v) w):gT P n E L o (.raw v):=λF a hE=>⟨v,by simp only[SV.ok],λw ⟨G,hg,hS⟩=>by unfold Oper.quietAt;rw[h F a hE w G hg hS];exact⟨rfl,rfl⟩⟩
theorem PG {K:Kd α} {i:Int} (hb:Qs r R b K0 x) (p:At K0 x off (bR m K) xs up) (hi:idx xs i=some z) (hT:P.underlying T=some (.array m e)) (hs:(P.info? e).map (·.size)=some K.n) (hX:ev E X=some (.raw (.pointer (some ⟨b,off,none⟩)))) (hI:ev E I=some (.raw (.int q i))):gT P n E (r::L) ⟨some d,.indexAddr T X I,ty,pos,aft,none⟩ (.raw (.pointer (some ⟨b,off+i.toNat*K.n,none⟩))):=NM λF a hE w G hg hS=>by obtain⟨h,hh,hon⟩:=hS.head;obtain⟨cs,post,e,rfl,c,_⟩:=hb.out hh;obtain⟨_,hm,_⟩:=p.get c;obtain⟨h0,h1,_⟩:=kY hi;simp[execOp,hE.raw hX,hE.raw hI,sy hT hs h0 (by omega) (p:=⟨b,off,none⟩) rfl w]
theorem MB {K:Kd α} {xs:List α} {i:Int} (hx:idx xs i=some x) (hT:P.underlying T=some (.slice e)) (hs:(P.info? e).map (·.size)=some K.n) (hX:ev E X=some (.raw v)) (hI:ev E I=some (.raw (.int q i))):gT P n E (.own K v e' xs::L) ⟨some d,.indexAddr T X I,ty,pos,aft,none⟩ (.raw (.pointer (some ⟨rx v,0+i.toNat*K.n,none⟩))):=NM λF a hE w G hg hS=>by obtain⟨b,h1,_⟩:=kY hx;obtain⟨f,hf,_⟩:=hS;have hv:=hE.raw hX;rcases hf with⟨rfl,rfl,_⟩|⟨g,cap,cur,rfl,_⟩;simp at h1;omega;have hr:=sx (P:=P) hT hs (p:=⟨g,0,none⟩) (m:=xs.length) (c:=cap) (q:=q) b h1 rfl w;simp[execOp,hv,hE.raw hI,hr,rx]
theorem M2 {xs:List α} (ht:P.underlying t=some (.slice e)) (hX:ev E X=some (.raw v)):gT P n E (.own K v e' xs::L) ⟨some d,.call ⟨.builtin .len,#[X],#[t]⟩,ty,pos,aft,none⟩ (.raw (.int .i64 xs.length)):=NM λF a hE w G hg hS=>by obtain⟨f,hf,_⟩:=hS;have hv:=hE.raw hX;rcases hf with⟨rfl,rfl,_⟩|⟨g,cap,cur,rfl,_⟩<;>simp[execOp,resolve,invoke,builtin,Builtin.len_,IE ht,hv,goInt]
theorem Of {p:Option Addr} (hg:P.underlying T=some (.pointer T')) (hb:b= .eql∨b= .neq) (hX:ev E X=some (.raw (.pointer p))):gT P n E L ⟨some d,.binOp b T X (.const (.pointer none)) u,ty,pos,aft,none⟩ (.raw (.bool (if b= .eql then p.isNone else p.isSome))):=MR λF a hE w=>by have h2:a.eval (.const (.pointer none))= .pointer none:=rfl;(have c:P.underlying T=some (.pointer (P.pointee T)):=by simp[Program.pointee,hg]);rw[execOp];simp only[hE.raw hX,h2,eqGuard];rcases hb with rfl|rfl;simp[run_eql_pointer_nil w T p c];cases p<;>simp[run_neq_pointer_nil w T _ c]
theorem Ms (hX:ev E X=some (.raw v)) (hv:∃p,v= .pointer (some p)):gT P n E L ⟨some d,.nilCheck X,ty,pos,aft,none⟩ (.raw v):=MR λF a hE w=>by obtain⟨p,rfl⟩:=hv;simp[execOp,hE.raw hX]
def VZ (F:Fz) {β γ:Type} (x:β) (x':Value→γ):List (kJ β)→List (kJ γ)→Prop|[],[]=>True|f::fs,f'::a=>(∀v cs,f.K.rd F cs (f.get x)→f'.K.rd F cs (f'.get (x' v)))∧VZ F x x' fs a|_,_=>False
def Vk (F:Fz) {β γ:Type} (x:β) (x':Value→γ):List (kJ β)→List (kJ γ)→Nat→Prop|[],_,_=>False|_,[],_=>False|f::fs,f'::a,0=>(∀cs,f.K.rd F cs (f.get x)→∃v:Value,f'.K.rd F cs (f'.get (x' v))∧v.oneCell'=true)∧VZ F x x' fs a|f::fs,f'::a,i+1=>(∀v cs,f.K.rd F cs (f.get x)→f'.K.rd F cs (f'.get (x' v)))∧Vk F x x' fs a i
theorem VZ.rd:∀{fs:List (kJ β)} {fs':List (kJ γ)} {cs:List Value},VZ F x x' fs fs'→xH F fs cs x→xH F fs' cs (x' v)|[],[],_,_,h=>h|f::fs,f'::fs',_,⟨h1,h2⟩,⟨c,d,e,a,b⟩=>⟨c,d,e,h1 v c a,VZ.rd h2 b⟩|[],_::_,_,h,_=>h.elim|_::_,[],_,h,_=>h.elim
theorem Vk.rd:∀{fs:List (kJ β)} {fs':List (kJ γ)} {i:Nat} {cs:List Value},Vk F x x' fs fs' i→xH F fs cs x→∃v:Value,xH F fs' cs (x' v)∧v.oneCell'=true|[],_,_,_,h,_=>h.elim|_::_,[],_,_,h,_=>h.elim|f::fs,f'::fs',0,_,⟨h1,h2⟩,⟨c,d,e,a,b⟩=>by obtain⟨v,h3,h4⟩:=h1 c a;exact⟨v,⟨c,d,e,h3,VZ.rd h2 b⟩,h4⟩|f::fs,f'::fs',i+1,_,⟨h1,h2⟩,⟨c,d,e,a,b⟩=>by obtain⟨v,h3,h4⟩:=Vk.rd h2 b;exact⟨v,⟨c,d,e,h1 v c a,h3⟩,h4⟩
theorem GO:∀cs,(cc K).rd F cs xs→∃v:Value,fd.rd F cs v∧v.oneCell'=true:=by rintro cs ⟨a,cap,rfl,r⟩;exact⟨_,⟨rfl,rfl⟩,rfl⟩
theorem OK (x':Value→γ) (hc:∀F,Vk F x x' fs fs' i) (k:∀v:Value,v.oneCell'=true→bl F0 n E (.box (pH fs') b T (x' v)::L) X):bl F0 n E (.box (pH fs) b T x::L) X:=λF a w h0 hE hS=>by obtain⟨f,⟨cs,hr,rfl⟩,hap,hs'⟩:=hS;obtain⟨v,h1,h2⟩:=Vk.rd (hc F) hr;exact k v h2 F a w h0 hE ⟨_,⟨cs,h1,rfl⟩,hap,hs'⟩
theorem Xi {s:ByteArray} (h:s.data.toList.map (λb=>(b.toNat:Int))=x):il (.raw (.string s)) xJ x:=λF v hv=>by simp only[SV.ok] at hv;subst hv;exact⟨[.string s],⟨s,rfl,h.symm⟩,rfl⟩
theorem sW (h:xJ.val F v x):∃s:ByteArray,v= .string s∧x=s.data.toList.map (λb=>(b.toNat:Int)):=by obtain⟨cs,⟨s,rfl,hx⟩,e⟩:=h;exact⟨s,e,hx⟩
theorem Em {a b:ByteArray} (h:a.data.toList.map (λb=>(b.toNat:Int))=b.data.toList.map (λb=>(b.toNat:Int))):a=b:=by(have key:∀l m:List UInt8,l.map (λb=>(b.toNat:Int))=m.map (λb=>(b.toNat:Int))→l=m:=by intro l;induction l with|nil=>(intro m h;cases m with|nil=>rfl|cons _ _=>cases h)|cons x l ih=>intro m h;cases m with|nil=>cases h|cons y m=>simp only[IU,List.cons.injEq] at h;rw[ih m h.2,UInt8.toNat_inj.1 (by omega:x.toNat=y.toNat)]);have:=key _ _ h;cases a;cases b;simp only[ByteArray.mk.injEq] at*;exact Array.toList_inj.1 this
theorem NS {b:BinOp} (hT:P.underlying T=some .string) (hX:ev E X=some s1) (h1:il s1 xJ x) (hY:ev E Y=some s2) (h2:il s2 xJ y) (hb:b= .eql∨b= .neq):gT P n E L ⟨some d,.binOp b T X Y u,ty,pos,aft,none⟩ (.raw (.bool (if b= .eql then x==y else x != y))):=MR λF a hE w=>by obtain⟨c,e1,rfl⟩:=sW (h1 F _ (hE.eval hX));obtain⟨e,e2,rfl⟩:=sW (h2 F _ (hE.eval hY));(have hq:((c.data.toList.map λb=>(b.toNat:Int))==(e.data.toList.map λb=>(b.toNat:Int)))=(c.toList==e.toList):=by rw[Ja,LA,LA];simp only[Ke];exact⟨λh=>by rw[Em h],λh=>by rw[h]⟩);rcases hb with rfl|rfl;simp only[LH,hq];rw[execOp];simp only[e1,e2,eqGuard];simp[binOp_string_eql];simp only[reduceCtorEq,LB,bne,hq];rw[execOp];simp only[e1,e2,eqGuard];simp[binOp_string_neq]
theorem PC {x:List Int} (ht:P.underlying t=some .string) (hX:ev E X=some s1) (h1:il s1 xJ x):gT P n E L ⟨some d,.call ⟨.builtin .len,#[X],#[t]⟩,ty,pos,aft,none⟩ (.raw (.int .i64 x.length)):=MR λF a hE w=>by obtain⟨b,e1,rfl⟩:=sW (h1 F _ (hE.eval hX));simp[execOp,resolve,invoke,builtin,Builtin.len_,IE ht,e1,goInt]
end
end Go.Sim
namespace Go.Sim
open Go
def m9:List Oper→List SV→List (Nat×SV)→List (Nat×SV)|o::l,s::sv,E=>(match o.dst with|some d=>m9 l sv ((d,s)::E)|none=>m9 l sv E)|_,_,E=>E
def HK (R:List (List Nat)) (g:List Nat) (lg:List Oper) (k t:Nat):Bool:=(List.range g.length).all λq=>match lg[q]? with|some o=>(match o.dst with|some d=> !(Nat.beq d t)||(cond (Nat.blt q k) (md (g.getD q 0) (R.getD (g.getD k 0) [])) (cond (Nat.beq q k) true (md (g.getD k 0) (R.getD (g.getD q 0) []))))|none=>true)|none=>true
def xh (l:List Oper) (D g:List Nat) (p:List (List Nat)):Bool:=g.all (λi=>Nat.blt i l.length)&&g.all (λi=> !md i D)&&sC g&&sC ((pick l g).filterMap (·.dst))&&(List.range l.length).all (λj=>md j D||md j g||g.all (λi=>md i ((oe l []).getD j [])))&&(List.range g.length).all λk=>match(pick l g)[k]?,p[k]? with|some o,some us=> !CX o.op&&(kG o).all (λe=>Nat.blt e l.length&&(md e D||md e (g.take k)))&&us.all (λt=>HK (oe l []) g (pick l g) k t)|_,_=>false
section
variable {P:Program} {ops:Array Oper} {Q:Exit→Act→World→Prop} {rest:List Oper} {F0:Fz} {n:Nat} {E:List (Nat×SV)} {L:List bM}
variable {d:Nat} {op:Op} {ty:TypeId} {pos:String} {aft:Array Edge} {s:SV} {Lf:List bM→List bM}
theorem BC {l:List Oper} {g:List Nat} (h:xh l D g p=true):GB l D g p:=by simp only[xh,Ix,JF] at h;obtain⟨⟨⟨⟨⟨h1,h2⟩,h3⟩,h4⟩,h5⟩,h6⟩:=h;(have a:∀i∈g,i<l.length:=λi hi=>by simpa[Kg] using h1 i hi);refine⟨a,λi hi hm=>?_,me h3,me h4,λj hj=>?_,λk i hk=>?_⟩;have:=h2 i hi;rw[dm.2 hm] at this;cases this;have:=h5 j (JY.2 hj);simp only[J5,JF] at this;rcases this with(h|h)|h;exact .inl (dm.1 h);exact .inr (.inl (dm.1 h));exact .inr (.inr λi hi=>by have:=dm.1 (h i hi);simpa[List.getD] using this);have d:k<g.length:=(It.1 hk).1;have f:i<l.length:=a i (I0 hk);have c:=oc a k i hk;(have ho:l[i]? =some l[i]:=by simp[f]);have h7:=h6 k (JY.2 d);rw[c,ho] at h7;cases hp:p[k]? with|none=>rw[hp] at h7;cases h7|some us=>rw[hp] at h7;simp only[Ix,JF,JJ] at h7;refine⟨l[i],us,ho,by rw[c,ho],rfl,h7.1.1,λe he=>?_,λt ht q j o' hq hj hd=>?_⟩;have:=h7.1.2 e he;simp only[Ix,J5,Kg] at this;exact⟨this.1,this.2.imp dm.1 dm.1⟩;have h8:=h7.2 t ht;simp only[HK,JF] at h8;have m:q<g.length:=(It.1 hq).1;have h9:=h8 q (JY.2 m);rw[oc a q j hq,hj] at h9;(have gk:g.getD k 0=i:=by simp[List.getD,hk]);(have gq:g.getD q 0=j:=by simp[List.getD,hq]);simp only[hd,Nat.beq_refl,IQ,Kr,gk,gq] at h9;constructor;intro b;(have:Nat.blt q k=true:=by simpa[Kg] using b);rw[this,Im] at h9;simpa[List.getD] using dm.1 h9;intro b;(have hb:Nat.blt q k=false:=by cases hb:Nat.blt q k with|false=>rfl|true=>(have:q<k:=by simpa[Kg] using hb);omega);(have n:Nat.beq q k=false:=by cases hb:Nat.beq q k with|false=>rfl|true=>have:=Jz hb;omega);rw[hb,Il,n,Il] at h9;simpa[List.getD] using dm.1 h9
theorem qa:∀{l:List Oper} {sv:List SV} {E:List (Nat×SV)},(∀o∈l,o.dst≠some t)→look (m9 l sv E) t=look E t|[],sv,E,_=>by simp[m9]|o::l,[],E,_=>by simp[m9]|o::l,s::sv,E,h=>by have ih:=λE'=>qa (t:=t) (l:=l) (sv:=sv) (E:=E') (λq hq=>h q (by simp[hq]));have ho:=h o (by simp);rw[m9];cases hd:o.dst with|none=>exact ih E|some d=>simp only[];rw[ih,de,Jf];intro e;rw[hd] at ho;exact ho (by rw[e])
theorem zf:∀{l:List Oper} {sv:List SV} {E:List (Nat×SV)} {j:Nat} {o:Oper},(l.filterMap (·.dst)).Nodup→l[j]? =some o→o.dst=some t→sv[j]? =some s→look (m9 l sv E) t=some s|[],sv,E,j,o,_,hj,_,_=>by simp at hj|q::l,[],E,j,o,_,_,_,hs=>by simp at hs|q::l,s0::sv,E,j,o,hn,hj,ht,hs=>by cases j with|zero=>simp at hj hs;subst hj;subst hs;rw[KV ht,Ki] at hn;rw[m9,ht];simp only[];rw[qa (λx hx e=>hn.1 (Lb.2 ⟨x,hx,e⟩)),de];simp|succ j=>have a:(l.filterMap (·.dst)).Nodup:=hn.sublist ((List.sublist_cons_self q l).filterMap _);rw[m9];cases hd:q.dst<;>exact zf a (by simpa using hj) ht (by simpa using hs)
theorem rk (a:∀r T,(r::Lf T).Perm (Lf (r::T))):∀(X:List bM) (T:List bM),(X++Lf T).Perm (Lf (X++T))|[],T=>List.Perm.refl _|r::X,T=>(List.Perm.cons r (rk a X T)).trans (a r _)
theorem H3 (a:∀r T,(r::Lf T).Perm (Lf (r::T))) {X:List bM} (h:X.Perm Y) (T:List bM):(Lf (X++T)).Perm (Lf (Y++T)):=(rk a X T).symm.trans ((h.append_right _).trans (rk a Y T))
def gE:Value→Nat| .pointer (some p)=>p.block|_=>0
theorem Ut:∀r T,(r::(λT:List bM=>T) T).Perm ((λT:List bM=>T) (r::T)):=λ_ _=>List.Perm.refl _
theorem T9:∀r T,(r::(λT:List bM=>r1::T) T).Perm ((λT:List bM=>r1::T) (r::T)):=λ_ _=>List.Perm.swap _ _ _
theorem V_:∀r T,(r::(λT:List bM=>r1::r2::T) T).Perm ((λT:List bM=>r1::r2::T) (r::T)):=λ_ _=>(List.Perm.swap _ _ _).trans (List.Perm.cons _ (List.Perm.swap _ _ _))
theorem VQ:∀r T,(r::(λT:List bM=>r1::r2::r3::T) T).Perm ((λT:List bM=>r1::r2::r3::T) (r::T)):=λ_ _=>(List.Perm.swap _ _ _).trans (List.Perm.cons _ ((List.Perm.swap _ _ _).trans (List.Perm.cons _ (List.Perm.swap _ _ _))))
theorem Zv:∀r T,(r::(λT:List bM=>r1::r2::r3::r4::T) T).Perm ((λT:List bM=>r1::r2::r3::r4::T) (r::T)):=λ_ _=>(List.Perm.swap _ _ _).trans (List.Perm.cons _ ((List.Perm.swap _ _ _).trans (List.Perm.cons _ ((List.Perm.swap _ _ _).trans (List.Perm.cons _ (List.Perm.swap _ _ _))))))
end
end Go.Sim
namespace Go.Sim
open Go
section
variable {P:Program} {ops:Array Oper} {Q:Exit→Act→World→Prop} {rest:List Oper} {F0:Fz} {n:Nat} {E:List (Nat×SV)} {L:List bM}
variable {d:Nat} {op:Op} {ty:TypeId} {pos:String} {aft:Array Edge} {s:SV}
theorem NN {α:Type} [BEq α] {T:TypeId} {K:Kd α} {a D:Nat} (h:E_ P T K a) (b:Nat.ble a D=true):E_ P T K D:=⟨λ{d F v u x y w} h1 h2=>by have:=JV b;(have e:d+D=(d+(D - a))+a:=by omega);rw[e];exact h.eq h1 h2⟩
theorem E_.str (hT:P.underlying T=some .string):E_ P T xJ 1:=⟨λ{d F v u x y w} h1 h2=>by obtain⟨s1,e1,rfl⟩:=sW h1;obtain⟨s2,e2,rfl⟩:=sW h2;subst e1;subst e2;(have hq:((s1.data.toList.map λb=>(b.toNat:Int))==(s2.data.toList.map λb=>(b.toNat:Int)))=(s1.toList==s2.toList):=by rw[Ja,LA,LA];simp only[Ke];exact⟨λh=>by rw[Em h],λh=>by rw[h]⟩);rw[hq];exact run_equalIn_string w d T s1 s2 hT⟩
def Vp (P:Program) (D:Nat) {β:Type}:List Field→List (kJ β)→Nat→(β→β→Bool)→Prop
 |[],[],_,q=>∀x y,q x y=true
 | f :: ff, k :: fs, o, q => f.name ≠ "_" ∧ f.offset = o ∧ KT P f.type k.K ∧ ∃ (i : BEq k.α), E_ P f.type k.K D ∧ ∃ q', (∀ x y, q x y = (k.get x == k.get y && q' x y)) ∧ Vp P D ff fs (o + k.K.n) q'
 |_,_,_,_=>False
theorem C2 {D d:Nat} {cs ds:List Value}:∀{ff:List Field} {fs:List (kJ β)} {o:Nat} {q:β→β→Bool},Vp P D ff fs o q→o+nF fs=cs.length→o+nF fs=ds.length→xH F fs (cs.drop o) x→xH F fs (ds.drop o) y→(Op.eqFields (d+D) cs.toArray ds.toArray ff).run P w= .ok (q x y) w|[],[],o,q,h,_,_,_,_=>by simp[Op.eqFields,h x y]|f::ff,k::fs,o,q,⟨h1,h2,h3,i,h4,q',h5,h6⟩,l1,l2,⟨c1,d1,e1,a1,b1⟩,⟨c2,d2,e2,a2,b2⟩=>(by subst h2;simp only[nF] at l1 l2;have p1:=qr h3 cs.toArray f.offset (by simp;omega) w;have p2:=qr h3 ds.toArray f.offset (by simp;omega) w;(have t1:(cs.drop f.offset).take k.K.n=c1:=by rw[e1,←k.K.len a1,J3]);(have t2:(ds.drop f.offset).take k.K.n=c2:=by rw[e2,←k.K.len a2,J3]);simp only[t1,t2] at p1 p2;have hq:=h4.eq (d:=d) (w:=w) ⟨c1,a1,rfl⟩ ⟨c2,a2,rfl⟩;(have e3:cs.drop (f.offset+k.K.n)=d1:=by rw[←Js,e1,←k.K.len a1,LP]);(have e4:ds.drop (f.offset+k.K.n)=d2:=by rw[←Js,e2,←k.K.len a2,LP]);have ih:=C2 (cs:=cs) (ds:=ds) h6 (by omega) (by omega) (by rw[e3];exact b1) (by rw[e4];exact b2) (d:=d) (w:=w);rw[h5];simp only[Op.eqFields,Jm h1,IC,p1,p2,hq,Iv];cases a:(k.get x==k.get y) with|false=>simp|true=>simp only[IQ,Kf,LB,JE];exact ih)|[],_::_,_,_,h,_,_,_,_=>h.elim|_::_,[],_,_,h,_,_,_,_=>h.elim
theorem E_.st {β:Type} [BEq β] {T:TypeId} {fs:List (kJ β)} {ff:Array Field} {D:Nat} (hT:P.underlying T=some (.struct ff)) (hp:P.stoodInHeld T=false) (h:Vp P D ff.toList fs 0 (λx y=>x==y)):E_ P T (pH fs) (D+1):=⟨λ{d F v u x y w} h1 h2=>by obtain⟨e1,r1⟩:=mY h1 rfl;obtain⟨e2,r2⟩:=mY h2 rfl;(have hf:P.fieldsOf T=ff:=by simp[Program.fieldsOf,hT]);rw[e1,e2,show d+(D+1)=(d+D)+1 by omega,run_equalIn_struct w (d+D) T _ _ (by rw[hf];exact hT) hp,hf];exact C2 h (by rw[IX];exact((pH fs).len r1).symm) (by rw[IX];exact((pH fs).len r2).symm) (by rw[JX];exact r1) (by rw[JX];exact r2)⟩
inductive T3:List SV→List SV→Prop where
 |nil:T3 [] []
 |sm {x:SV} {l l':List SV} (r:T3 l l'):T3 (x::l) (x::l')
 |rd {α:Type} {K:Kd α} {x:α} {s0:SV} {l l':List SV} (h:il s0 K x) (r:T3 l l'):T3 (s0::l) (.val K x::l')
theorem T3.oks:∀{l l':List SV} {vs:List Value},T3 l l'→SV.oks F vs l→SV.oks F vs l'|_,_,[],.nil,h=>h|_,_,_::_,.nil,h=>by simp only[SV.oks] at h|_,_,[],.sm r,h=>by simp only[SV.oks] at h|_,_,_::_,.sm r,h=>by simp only[SV.oks] at h⊢;exact⟨h.1,T3.oks r h.2⟩|_,_,[],.rd q r,h=>by simp only[SV.oks] at h|_,_,_::_,.rd q r,h=>by simp only[SV.oks] at h⊢;exact⟨by simp only[SV.ok];exact q _ _ h.1,T3.oks r h.2⟩
theorem PN (c:T3 l l') (h:Ok P f l' L s L'):Ok P f l L s L':=λF w vs hv hS=>h F w vs (c.oks hv) hS
end
end Go.Sim
namespace Go.Sim
open Go
section
variable {P:Program} {ops:Array Oper} {Q:Exit→Act→World→Prop} {rest:List Oper} {F0:Fz} {n:Nat} {E:List (Nat×SV)} {L:List bM}
variable {d:Nat} {op:Op} {ty:TypeId} {pos:String} {aft:Array Edge} {s:SV}
def q4 (xs:List Int):List Int:=xs.map λn=>((UInt8.ofNat n.toNat).toNat:Int)
theorem AI:∀(xs:List Int) (s:ByteArray),((xs.foldl (λr n=>r.push (UInt8.ofNat n.toNat)) s).data.toList.map λb=>(b.toNat:Int))=(s.data.toList.map λb=>(b.toNat:Int))++q4 xs|[],s=>by simp[q4]|x::xs,s=>by simp only[JK];rw[AI xs];simp[q4,ByteArray.push]
theorem HF {F:Fz} {w:World} {xs:List Int} (hv:(cc (bD .u8)).val F v xs) (hw:∀b o,F.blk b=some o→w.heap[b]? =some o):(Conv.bytesToString v).run P w= .ok (.string (xs.foldl (λr n=>r.push (UInt8.ofNat n.toNat)) ByteArray.empty)) w:=by obtain⟨cs,⟨a,cap,rfl,hcap,r⟩,rfl⟩:=hv;cases a with|none=>(have:xs=[]:=by rcases r with r|⟨p,_,_,_,h,_⟩;exact IS r;cases h);subst this;simp[zG,cc,Conv.bytesToString]|some p=>refine run_bytesToString w p xs.length cap xs ?_;have:=run_loadCells_list (P:=P) w p (xs.map (Value.int .u8)) λj v hj=>?_;simpa using this;rw[Kt] at hj;obtain⟨x,hx,rfl⟩:=Jh.1 hj;rcases r with r|⟨q,c,e,fr,hq,hp,hb,hle,hrd⟩;have:=IS r;subst this;simp at hx;cases hq;obtain⟨b,o,sp⟩:=p;simp only at hp hb hle;subst hp;rw[Je,KX w b (o+j) c e fr (hw _ _ hb)];have h1:=yW hrd hx;(have hjl:j<xs.length*(bD .u8).n:=by have:=(It.1 hx).1;simp[bD];omega);rw[IT hjl,Jc] at h1;simpa using h1
theorem Nu {xs:List Int} (hT:P.underlying T=some (.slice e)) (he:P.underlying e=some (.int .u8)) (hU:P.underlying U=some .string) (hX:ev E X=some s) (hr:il s (cc (bD .u8)) xs):gT P n E L ⟨some d,.convert T U X,ty,pos,aft,none⟩ (.val xJ (q4 xs)):=λF a hE=>by have hv:=hr F _ (hE.eval hX);refine⟨.string (xs.foldl (λr n=>r.push (UInt8.ofNat n.toNat)) ByteArray.empty),by simp only[SV.ok];exact⟨[_],⟨_,rfl,by rw[AI];rfl⟩,rfl⟩,λw ⟨G,hg,hS⟩=>?_⟩;have hrun:=HF (P:=P) (hv.mono hg) hS.on.blk;obtain⟨cs,⟨ad,cap,rfl,_⟩,hval⟩:=hv;have hval:a.eval X= .slice ad xs.length cap:=hval;unfold Oper.quietAt;rw[hval] at hrun;(have hc:(convert T U (.slice ad xs.length cap)).run P w= .ok (.string (xs.foldl (λr n=>r.push (UInt8.ofNat n.toNat)) ByteArray.empty)) w:=by rw[run_convert_bytes_string w T U e ad _ cap hT he hU,hrun]);simp[execOp,hval,hc,Oper.quietUpon]
theorem GP {w:World} {c:Array Value} (hb:w.heap[g]? =some (.cells c e (0,0))) (o:Nat):∃w',(markStringish ⟨g,o,none⟩).run P w= .ok () w'∧w'.heap[g]? =some (.cells c e (c.size,c.size+1))∧SR w w' (dv.one g (.cells c e (0,0))):=by have d:=gp hb;(have a:w.shape? g=some (e,c.size):=by simp[World.shape?,hb]);refine⟨w.freeze ⟨g,c.size,none⟩ 1,by simp[markStringish,a],?_,⟨rfl,rfl,rfl,λk hk hn=>?_⟩⟩;simp[World.freeze,KQ,hb];(have b:g≠k:=λh=>by subst h;rw[Mo] at hn;cases hn);simp[World.freeze,KQ,b]
theorem Nx {K:Kd α} {xs:List α} (hT:P.underlying T=some (.slice e)) (he:P.underlying e=some (.int .u8)) (h0:0<xs.length) (hX:ev E X=some (.raw v)) (hd:Nat.blt d n=true) (k:bl F0 n ((d,.val (cc K) xs)::E) L (wpList P t Q p)):bl F0 n E (.own K v e' xs::L) (wpList P t Q (⟨some d,.convert T T X,ty,pos,aft,none⟩::p)):=ME rfl λF a w u hE hS=>by have hv:=hE.raw hX;obtain⟨h,hh,hon⟩:=hS.head;rcases hh with⟨rfl,rfl,_⟩|⟨g,cap,b,rfl,rfl,h3,h4,h5,h6⟩;simp at h0;have hb:=hon g _ (Mo _ _);obtain⟨w',hrun,x,hc⟩:=GP (P:=P) hb 0;let o':Obj:= .cells b e' (b.size,b.size+1);(have y:F.blk g=none:=by obtain⟨h2,c,r,hs2⟩:=hS;(have z:h2 g≠none:=by rcases c with⟨q,_⟩|⟨g',cap',cur',q,rfl,_⟩;cases q;simp only[Value.slice.injEq,Option.some.injEq,Addr.mk.injEq,LR,true_and] at q;obtain⟨rfl,_⟩:=q;rw[Mo];simp);exact r g z);(have A:St F w' (.any (λq=>q=dv.one g o')::L):=hS.turn λh2 c s=>by rcases c with⟨q,_⟩|⟨g',cap',cur',q,rfl,_⟩;cases q;simp only[Value.slice.injEq,Option.some.injEq,Addr.mk.injEq,LR,true_and] at q;obtain⟨rfl,rfl⟩:=q;have l:=s g _ (Mo _ _);rw[hb] at l;have hq:=Option.some.inj l;simp only[Obj.cells.injEq,LR,true_and] at hq;subst hq;refine⟨dv.one g o',rfl,hc,λk hk=> .inl ?_,λk o eo=>?_⟩;by_cases m:k=g;subst m;rw[Mo];simp;exact absurd (MY _ m) hk;obtain⟨rfl,rfl⟩:=MT eo;exact x);obtain⟨f,hf,hap1,i,hS2⟩:=A.freeze;have hf:f=dv.one g o':=hf;subst hf;(have j:(convert T T (.slice (some ⟨g,0,none⟩) xs.length cap)).run P w= .ok (.slice (some ⟨g,0,none⟩) xs.length cap) w':=by simp[convert,IE hT,IE he,hrun]);unfold Oper.wp;simp only[execOp,hv,IC,j,Iv,IJ,Oper.upon];refine k _ _ _ (Nj u i) ((hE.mono i).put hd ?_) hS2;simp only[SV.ok];refine⟨[.slice (some ⟨g,0,none⟩) xs.length cap],⟨_,cap,rfl,h3,.inr ⟨⟨g,0,none⟩,b,e',(b.size,b.size+1),rfl,rfl,?_,?_,by simpa using h6.mono i⟩⟩,rfl⟩;simp only[Fz.add,y];exact Mo _ _;have:xs.length*K.n≤cap*K.n:=Iz _ h3;simp only;omega
end
end Go.Sim
namespace Go.Sim
open Go
end Go.Sim
namespace Go.Sim
open Go
def mdel {α β:Type} [BEq α] (x:α):List (α×β)→List (α×β)|[]=>[]|p::ps=>bif x==p.1 then ps else p::mdel x ps
theorem AJ [BEq α]:∀{ps:List (α×β)} {i:Nat},nE x ps i=none→mdel x ps=ps|[],_,_=>rfl|p::ps,i,h=>by cases a:(x==p.1) with|true=>simp[nE,a] at h|false=>simp only[nE,a,Il] at h;simp[mdel,a,AJ h]
theorem En [BEq α]:∀{es:List MapEntry} {ps:List (α×β)} {i j:Nat},B_ K V F es ps→nE x ps i=some (i+j)→B_ K V F (es.eraseIdx j) (mdel x ps)|e::es,p::ps,i,j,⟨a,b,c⟩,h=>(by cases d:(x==p.1) with|true=>simp only[nE,d,Im,Option.some.injEq] at h;(have:j=0:=by omega);subst this;simpa[mdel,d] using c|false=>simp only[nE,d,Il] at h;have:=xg h;cases j with|zero=>omega|succ j=>simp only[mdel,d,Il,List.eraseIdx_cons_succ];exact⟨a,b,En (i:=i+1) c (by rw[h];congr 1;omega)⟩)|[],[],i,j,_,h=>by cases h|[],_::_,_,_,h,_=>h.elim|_::_,[],_,_,h,_=>h.elim
theorem Fr {es b:Array MapEntry} (h:wB es a) (hs:List.Sublist b.toList es.toList):wB b a:=⟨λe he=>h.1 e (hs.subset he),h.2.sublist (hs.map _)⟩
theorem C3 {K:Kd α} {V:Kd β} {e:MapEntry}:∀{es:List MapEntry} {ps:List (α×β)},B_ K V F es ps→(es.map (·.born)).Nodup→e∈es→∃p qs,ps.Perm (p::qs)∧K.val F e.key p.1∧V.val F e.val p.2∧B_ K V F (es.filter λx=>x.born != e.born) qs|[],_,_,_,he=>by cases he|x::es,[],h,_,_=>h.elim|x::es,p::ps,⟨a,b,c⟩,hn,he=>by have d:=Ki.1 hn;by_cases hx:x=e;subst hx;(have f:es.filter (λy=>y.born != x.born)=es:=Ly.2 λy hy=>by have:y.born≠x.born:=λh=>d.1 (Jd.2 ⟨y,hy,h⟩);simpa using this);exact⟨p,ps,List.Perm.refl _,a,b,by rw[Lq];simp[f];exact c⟩;(have hm:e∈es:=by rcases I9.1 he with h|h;exact absurd h.symm hx;exact h);have hb:x.born≠e.born:=λh=>d.1 (Jd.2 ⟨e,hm,h.symm⟩);obtain⟨q,qs,h1,h2,h3,h4⟩:=C3 c d.2 hm;refine⟨q,p::qs,(List.Perm.cons p h1).trans (List.Perm.swap _ _ _),h2,h3,?_⟩;rw[Lq,Jm (by simpa using hb)];exact⟨a,b,h4⟩
theorem C4 {w:World} {seen:Array Nat} {es:Array MapEntry} (hr:w.heap[r]? =some (.mapIter (some bm) since seen c0)) (hb:w.heap[bm]? =some (.map es clock)) (hold:∀x∈es.toList,x.born<since) (hsc:since≤c0):(leftOf es seen=#[]∧(Instr.next (.pointer (some ⟨r,0,none⟩)) false ty).run P w= .ok (.tuple #[.bool false]) w)∨∃e∈(leftOf es seen).toList,∃w1:World,(w1=w∨w1=w.drew)∧(Instr.next (.pointer (some ⟨r,0,none⟩)) false ty).run P w= .ok (.tuple #[.bool true,e.key,e.val]) {w1 with heap:=w1.heap.setIfInBounds r (.mapIter (some bm) since (seen.push e.born) clock)}:=by simp only[Instr.next,getObj,IC,Sem.run,hr,hb,Result.andThen,next_test_false seen es since c0 hold hsc,Kf,LB];unfold leftOf;have hmem:∀x∈(Array.filter (λe=> !seen.contains e.born) es).toList,x.born<since:=λx hx=>hold x (by simp at hx⊢;exact hx.1);generalize Array.filter (λe=> !seen.contains e.born) es=L at hmem⊢;have e1:L.filter (λx=>decide (x.born<since))=L:=Array.filter_eq_self.2 (λx hx=>by simpa using hmem x (by simpa using hx));(have e2:L.filter (λx=>decide (x.born≥since))=#[]:=by rw[Array.filter_eq_empty_iff];intro x hx;have:=hmem x (by simpa using hx);simp;omega);simp only[e1,e2,KZ];by_cases h0:L.size=0;left;have:L=#[]:=Array.eq_empty_of_size_eq_zero h0;subst this;refine⟨rfl,?_⟩;simp[choose,Sem.run,Question.forced];right;(have hne:L.isEmpty=false:=by simp[Array.isEmpty,h0]);simp only[hne,Kf,LB,Kp,Array.size_map];(have hch:∃(j:Nat) (w1:World),j<L.size∧(w1=w∨w1=w.drew)∧(choose (Question.mapNext L.size)).run P w= .ok j w1:=by by_cases hf:L.size≤1;exact⟨0,w,by omega,.inl rfl,by simp[choose,Sem.run,Question.forced,hf]⟩;exact⟨_,w.drew,L2 _ (by omega),.inr rfl,by simp only[choose,Sem.run,Question.forced,IB,hf,LB,Question.cut];rfl⟩);obtain⟨j,w1,hj,hal,hrun⟩:=hch;refine⟨L[j],by simp,w1,hal,?_⟩;(have hr1:w1.heap[r]? =some (.mapIter (some bm) since seen c0):=by rcases hal with rfl|rfl<;>exact hr);(have hset:∀o':Obj,(setObj r o').run P w1= .ok () {w1 with heap:=w1.heap.setIfInBounds r o'}:=λo'=>by simp only[setObj,Sem.run,hr1]);simp only[hrun,Array.getElem?_map,JG hj,Kx,IC,hset,Result.andThen];rfl
noncomputable def BD {γ S R:Type} (ps:List γ) (f:γ→S→Option S) (k:S→Option R) (s0:S):Option R:=open Classical in if h:∃r,∀qs:List γ,qs.Perm ps→(qs.foldlM (λs q=>f q s) s0).bind k=some r then some h.choose else none
noncomputable def uc {γ S R:Type} (ps:List γ) (f:γ→S→Option S) (k:S→Option R) (s0:S):Option R:=match ps with|[]=>k s0|p::ps=>BD (p::ps) f k s0
theorem C5 {γ S R:Type} {ps:List γ} {f:γ→S→Option S} {k:S→Option R} {s0:S} {r:R} (h:uc ps f k s0=some r) (qs:List γ) (hq:qs.Perm ps):(qs.foldlM (λs q=>f q s) s0).bind k=some r:=by cases ps with|nil=>cases hq.eq_nil;exact h|cons p ps=>simp only[uc,BD] at h;split at h;rename_i hx;cases h;exact hx.choose_spec qs hq;cases h
theorem AK {γ S R:Type} {ps:List γ} {f:γ→S→Option S} {k:S→Option R} {s0:S} {r:R} (h:∀qs:List γ,qs.Perm ps→(qs.foldlM (λs q=>f q s) s0).bind k=some r):uc ps f k s0=some r:=by cases ps with|nil=>exact h [] (List.Perm.refl _)|cons p ps=>simp only[uc,BD];have hx:∃r,∀qs:List γ,qs.Perm (p::ps)→(qs.foldlM (λs q=>f q s) s0).bind k=some r:=⟨r,h⟩;rw[dif_pos hx];have a:=hx.choose_spec (p::ps) (List.Perm.refl _);rw[h (p::ps) (List.Perm.refl _)] at a;exact a.symm
theorem BE (I:Nat→Act→World→Prop) {c:Code} (f:∀k a w,I k a w→c.wp P (Exit.then (λa' w'=>∃k',k'<k∧I k' a' w') Q) a w) (h0:I k a w):(Code.loop c).wp P Q a w:=by intro b kk cs;(have key:∀k a w,I k a w→∃e a' w',Q e a' w'∧Arrives P (lone (b.at a (.code c:: .inLoop c::kk)) cs w) b kk cs e a' w':=by intro k;induction k using Nat.strongRecOn with|_ k ih=>intro a w hI;obtain⟨e,a₁,w₁,hq,d⟩:=f k a w hI b (.inLoop c::kk) cs;cases e with|normal=>obtain⟨k',g,h⟩:=hq;obtain⟨e₂,a₂,w₂,hq₂,harr₂⟩:=ih k' g a₁ w₁ h;exact⟨e₂,a₂,w₂,hq₂,.of_steps (Steps.trans d (.one step_inLoop)) harr₂⟩|exit id=>exact⟨_,a₁,w₁,hq,.pass (x:= .inLoop c) rfl (λ_ _=> .inl (by simp)) d⟩|goto l=>exact⟨_,a₁,w₁,hq,.pass (x:= .inLoop c) rfl (λ_ _=> .inl (by simp)) d⟩|ret=>exact⟨_,a₁,w₁,hq,.pass (x:= .inLoop c) rfl (λ_ _=> .inl (by simp)) d⟩|panic ch=>exact⟨_,a₁,w₁,hq,.pass (x:= .inLoop c) rfl (λ_ _=> .inl (by simp)) d⟩|outgrown=>exact⟨_,a₁,w₁,hq,.pass (x:= .inLoop c) rfl (λ_ _=> .inl (by simp)) d⟩);obtain⟨e,a',w',hq,d⟩:=key k a w h0;exact⟨e,a',w',hq,.of_steps (.one step_loop) d⟩
section
variable {P:Program} {ops:Array Oper} {Q:Exit→Act→World→Prop} {rest:List Oper} {F0:Fz} {n:Nat} {E:List (Nat×SV)} {L:List bM}
variable {d:Nat} {op:Op} {ty:TypeId} {pos:String} {aft:Array Edge} {s:SV}
def WL {α β S C:Type} (F0:Fz) (n:Nat) (K:Kd α) (V:Kd β) (it:Nat) (f:α×β→S→Option S) (Es:S→C→List (Nat×SV)) (Ls:S→C→List bM) (x:S) (left:List (α×β)):Act→World→Prop:=λa w=>∃x' y' F p b c,left.Perm (p::b)∧f p x=some x'∧F0≤F∧Env F a n (Es x' y')∧St F w (.itr K V it b c::Ls x' y')
theorem N3 {ps:List (α×β)} {c:Code} (c0:C) (Es:S→C→List (Nat×SV)) (Ls:S→C→List bM) (h:uc ps f k x0=some r) (hE:∀t v,look (Es x0 c0) t=some v→look E t=some v) (hL:L= .itr K V it ps none::Ls x0 c0) (g:∀x y left d,(left=[]→k x=some r)→(∀p b,left.Perm (p::b)→∃x',f p x=some x')→bl F0 n (Es x y) (.itr K V it left d::Ls x y) (c.wp P (Exit.then (WL F0 n K V it f Es Ls x left) Q))):bl F0 n E L ((Code.loop c).wp P Q):=λF a w h0 i hS=>by refine BE (λm a w=>∃x y left d F,left.length=m∧(∀qs:List (α×β),qs.Perm left→(qs.foldlM (λs q=>f q s) x).bind k=some r)∧F0≤F∧Env F a n (Es x y)∧St F w (.itr K V it left d::Ls x y)) ?_ (k:=ps.length) ⟨x0,c0,ps,none,F,rfl,C5 h,h0,i.sub hE,hL▸hS⟩;rintro m a w ⟨x,y,left,d,F,hm,hall,h0,hE,hS⟩;refine wp_mono (g x y left d (λhl=>?_) (λp b hp=>?_) F a w h0 hE hS) (λe a w q=>?_);subst hl;have:=hall [] (List.Perm.refl _);simpa using this;have:=hall (p::b) hp.symm;rw[L1] at this;(cases hf:f p x with|none=>rw[hf] at this;simp at this|some x'=>exact⟨x',rfl⟩);cases e with|normal=>obtain⟨x',y',F,p,b,cur',hp,hf,h1,h2,h3⟩:=q;refine⟨b.length,?_,x',y',b,cur',F,rfl,λqs hq=>?_,h1,h2,h3⟩;have:=hp.length_eq;simp at this;omega;have:=hall (p::qs) ((List.Perm.cons p hq).trans hp.symm);rw[L1,hf] at this;simpa using this|_=>exact q
theorem N4 {left:List (α×β)} (x':S) (y':C) (hp:left.Perm (p::left')) (hf:f p x=some x1) (ho:(some x':Option S)=some x1) (hE:∀t v,look (Es x' y') t=some v→look E t=some v) (hL:L= .itr K V it left' cur'::Ls x' y'):bl F0 n E L (WL F0 n K V it f Es Ls x left):=λF a w h0 hE' hS=>⟨x',y',F,p,left',cur',hp,by rw[hf];exact ho.symm,h0,hE'.sub hE,hL▸hS⟩
theorem bl.mdel {α β:Type} [BEq α] {K:Kd α} {V:Kd β} {T t2 kt et:TypeId} {b:Nat} {ps:List (α×β)} {M X:Operand} {x:α} {s1:SV} (hk:QV P kt K) (hT:P.underlying T=some (.map kt et)) (hM:ev E M=some (.raw (.map (some b)))) (hX:ev E X=some s1) (h1:il s1 K x) (k:bl F0 n E (.mp K V b (mdel x ps)::L) (wpList P t Q p)):bl F0 n E (.mp K V b ps::L) (wpList P t Q (⟨none,.call ⟨.builtin .delete,#[M,X],#[T,t2]⟩,ty,pos,aft,none⟩::p)):=ME rfl λF a w h0 hE hS=>by obtain⟨h,⟨es,c,⟨f,g⟩,rfl⟩,l⟩:=hS.head;have hb:w.heap[b]? =some (.map es c):=l b _ (Mo _ _);have v1:=h1 F _ (hE.eval hX);(have r:∃d,(Builtin.delete_ #[T,t2] ty #[.map (some b),a.eval X]).run P w= .ok (.tuple #[]) {w with heap:=w.heap.setIfInBounds b (.map d c)}∧B_ K V F d.toList (Go.Sim.mdel x ps)∧wB d c:=by have hc:=λbb=>hk.chk (b:=bb) (w:=w) v1;rcases fW hk v1 (w:=w) (i:=0) f with⟨a1,a2,a3⟩|⟨j,e,a1,a2,a3,a4,q,a5,a6⟩;refine⟨es,?_,by rw[AJ a1];exact f,g⟩;simp[Builtin.delete_,IE hT,Jw (P:=P) hb,hc,hk.find a3,JZ (P:=P) _ hb];simp only[IX] at a3 a1;refine⟨es.eraseIdxIfInBounds j,?_,?_,Fr g ?_⟩;simp[Builtin.delete_,IE hT,Jw (P:=P) hb,hc,hk.find a3,JZ (P:=P) _ hb];rw[Array.toList_eraseIdxIfInBounds];exact En (i:=0) f (by rw[a1,IX]);rw[Array.toList_eraseIdxIfInBounds];exact List.eraseIdx_sublist _ _);obtain⟨d,hr,s,hst'⟩:=r;(have u:St F {w with heap:=w.heap.setIfInBounds b (.map d c)} (.mp K V b (Go.Sim.mdel x ps)::L):=by refine hS.turn λh hh l=>?_;obtain⟨z,clock0,_,rfl⟩:=hh;have v:=gp hb;refine⟨dv.one b (.map d c),⟨d,c,⟨s,hst'⟩,rfl⟩,⟨rfl,rfl,rfl,λq _ hq=>?_⟩,λq hq=> .inl ?_,λq o ho=>?_⟩;(have y:b≠q:=λe=>by subst e;rw[Mo] at hq;cases hq);exact Ju y;by_cases m:q=b;subst m;rw[Mo];simp;exact absurd (MY _ m) hq;obtain⟨rfl,rfl⟩:=MT ho;exact I6 v);unfold Oper.wp;simp[execOp,resolve,invoke,builtin,hE.raw hM,hr,Oper.upon];exact k F _ _ h0 hE u
theorem bl.rng (hT:P.underlying T=some (.map kt et)) (hX:ev E X=some (.val (Se K V) ps)) (hd:Nat.blt d n=true) (k:∀b,bl F0 n ((d,.raw (.pointer (some ⟨b,0,none⟩)))::E) (.itr K V b ps none::L) (wpList P ops Q rest)):bl F0 n E L (wpList P ops Q (⟨some d,.range T X,ty,pos,aft,none⟩::rest)):=ME rfl λF a w h0 hE hS=>by have hv:=hE.eval hX;simp only[SV.ok] at hv;obtain⟨cs,h,hv3⟩:=hv;(have fin:∀o:Obj,Zl K V F w.heap.size ps none (dv.one w.heap.size o)→(Instr.range T (a.eval X)).run P w= .ok (.pointer (some ⟨w.heap.size,0,none⟩)) (w.alloc o)→Oper.wp P ⟨some d,.range T X,ty,pos,aft,none⟩ a w (wpList P ops Q rest) Q:=λo ho hr=>by obtain⟨hn1,hn2⟩:=nL w o;have hS':St F (w.alloc o) (.itr K V w.heap.size ps none::L):=NQ hS (dv.one w.heap.size o) ho (ms w _) hn1 hn2;unfold Oper.wp;simp only[execOp,hr,IC,Iv,IJ,Oper.upon];exact k _ F _ _ h0 (hE.put hd (by simp only[SV.ok])) hS');rcases h with⟨rfl,rfl⟩|⟨b,es,clock,rfl,hb,hrd,hst⟩;refine fin (.mapIter none 0 #[] 0) (.inl ⟨rfl,rfl,rfl⟩) ?_;have hv2:a.eval X= .map none:=hv3;rw[hv2];exact run_range_nilMap w T kt et hT;have hv2:a.eval X= .map (some b):=hv3;refine fin (.mapIter (some b) clock #[] clock) (.inr ⟨b,es,clock,#[],hb,hst,?_,rfl,λp hp=>by cases hp⟩) ?_;(have:es.toList.filter (λe=> !(#[]:Array Nat).contains e.born)=es.toList:=Ly.2 λe _=>by simp);rw[this];exact hrd;rw[hv2];exact run_range_map w T kt et b es clock hT (hS.on.blk _ _ hb)
theorem Oz {left:List (α×β)} (hX:ev E X=some (.raw (.pointer (some ⟨b,0,none⟩)))) (hd:Nat.blt d n=true) (kend:left=[]→bl F0 n ((d,.tup [.raw (.bool false)])::E) (.itr K V b left cur::L) (wpList P ops Q rest)) (kpick:∀p left',left.Perm (p::left')→bl F0 n ((d,.tup [.raw (.bool true),.val K p.1,.val V p.2])::E) (.itr K V b left' (some p)::L) (wpList P ops Q rest)):bl F0 n E (.itr K V b left cur::L) (wpList P ops Q (⟨some d,.next X false,ty,pos,aft,none⟩::rest)):=ME rfl λF a w h0 hE hS=>by obtain⟨h,hh,hon⟩:=hS.head;have hh0:=hh;rcases hh with⟨rfl,rfl,rfl⟩|⟨m,es,clock,seen,hb,hst,hrd,rfl,hc⟩;have hb:w.heap[b]? =some (.mapIter none 0 #[] 0):=hon b _ (Mo _ _);(have hr:(Instr.next (.pointer (some ⟨b,0,none⟩)) false ty).run P w= .ok (.tuple #[.bool false]) w:=by simp only[Instr.next,getObj,IC,Sem.run,hb,Result.andThen];rfl);unfold Oper.wp;simp only[execOp,hE.raw hX,hr,IC,Iv,IJ,Oper.upon];exact kend rfl F _ _ h0 (hE.put hd (by simp only[SV.ok,SV.oks];exact⟨[_],rfl,rfl,trivial⟩)) hS;have hbi:w.heap[b]? =some (.mapIter (some m) clock seen clock):=hon b _ (Mo _ _);have hbm:=hS.on.blk _ _ hb;rcases C4 (P:=P) (ty:=ty) hbi hbm hst.1 (IL _) with⟨h1,hr⟩|⟨e,he,w1,hw1,hr⟩;(have hl0:es.toList.filter (λe=> !seen.contains e.born)=[]:=by have:=congrArg Array.toList h1;simpa[leftOf] using this);(have hleft:left=[]:=by rw[hl0] at hrd;cases left with|nil=>rfl|cons p l=>exact hrd.elim);unfold Oper.wp;simp only[execOp,hE.raw hX,hr,IC,Iv,IJ,Oper.upon];exact kend hleft F _ _ h0 (hE.put hd (by simp only[SV.ok,SV.oks];exact⟨[_],rfl,rfl,trivial⟩)) hS;have hel:=mem_left he;have hlf:e∈es.toList.filter (λe=> !seen.contains e.born):=J4.2 ⟨hel.1,by rw[hel.2];rfl⟩;have hnd:((es.toList.filter (λe=> !seen.contains e.born)).map (·.born)).Nodup:=hst.2.sublist ((Ma).map _);obtain⟨p,qs,hp,hk1,hv1,hrd'⟩:=C3 hrd hnd hlf;(have hrd2:B_ K V F (es.toList.filter λx=> !(seen.push e.born).contains x.born) qs:=by(have:es.toList.filter (λx=> !(seen.push e.born).contains x.born)=(es.toList.filter (λe=> !seen.contains e.born)).filter λx=>x.born != e.born:=by rw[List.filter_filter];refine List.filter_congr λx _=>?_;rw[contains_push];cases seen.contains x.born<;>cases hxx:(x.born==e.born)<;>simp_all);rw[this];exact hrd');(have hS1:St F w1 (.itr K V b left cur::L):=by rcases hw1 with rfl|rfl;exact hS;exact q8.drew hS);(have hbi1:w1.heap[b]? =some (.mapIter (some m) clock seen clock):=by rcases hw1 with rfl|rfl<;>exact hbi);(have hS':St F {w1 with heap:=w1.heap.setIfInBounds b (.mapIter (some m) clock (seen.push e.born) clock)} (.itr K V b qs (some p)::L):=by refine hS1.turn λh hh hon=>?_;have hlt:=gp hbi1;(have hbh:∀q,h q≠none↔q=b:=by(have:∃o,h=dv.one b o:=by rcases hh with⟨_,_,rfl⟩|⟨_,_,_,_,_,_,_,rfl,_⟩<;>exact⟨_,rfl⟩);obtain⟨o,rfl⟩:=this;intro q;by_cases hqb:q=b;subst hqb;rw[Mo];simp;rw[MY _ hqb];simp[hqb]);refine⟨dv.one b (.mapIter (some m) clock (seen.push e.born) clock),.inr ⟨m,es,clock,seen.push e.born,hb,hst,hrd2,rfl,λp' hp'=>?_⟩,⟨rfl,rfl,rfl,λq _ hq=>?_⟩,λq hq=> .inl ?_,λq o ho=>?_⟩;cases hp';exact⟨e,seen,rfl,hel.1,hk1,hv1⟩;(have hne:b≠q:=λe=>by subst e;exact absurd hq ((hbh b).2 rfl));exact Ju hne;by_cases hqb:q=b;exact(hbh q).2 hqb;exact absurd (MY _ hqb) hq;obtain⟨rfl,rfl⟩:=MT ho;exact I6 hlt);unfold Oper.wp;simp only[execOp,hE.raw hX,hr,IC,Iv,IJ,Oper.upon];exact kpick p qs hp F _ _ h0 (hE.put hd (by simp only[SV.ok,SV.oks];exact⟨[_,_,_],rfl,rfl,hk1,hv1,trivial⟩)) hS'
theorem OA {p:α×β} (hX:ev E X=some (.raw (.pointer (some ⟨b,0,none⟩)))) (hd:Nat.blt d n=true) (k:bl F0 n ((d,.tup [.val K p.1,.val V p.2])::E) (.itr K V b left (some p)::L) (wpList P ops Q rest)):bl F0 n E (.itr K V b left (some p)::L) (wpList P ops Q (⟨some d,.entry X,ty,pos,aft,none⟩::rest)):=ME rfl λF a w h0 hE hS=>by obtain⟨h,hh,hon⟩:=hS.head;rcases hh with⟨_,hx,_⟩|⟨m,es,clock,seen,hb,hst,hrd,rfl,hc⟩;cases hx;obtain⟨e,seen',rfl,he,hk1,hv1⟩:=hc p rfl;have hbi:w.heap[b]? =some (.mapIter (some m) clock (seen'.push e.born) clock):=hon b _ (Mo _ _);have hbm:=hS.on.blk _ _ hb;(have hf:es.find? (·.born==e.born)=some e:=by rw[←Array.find?_toList];exact find_born e es.toList hst.2 he);(have hr:(Instr.entry (.pointer (some ⟨b,0,none⟩))).run P w= .ok (.tuple #[e.key,e.val]) w:=by simp only[Instr.entry,getObj,IC,Sem.run,hbi,hbm,Result.andThen,Array.back?_push,IH,Kf,LB,hf];rfl);unfold Oper.wp;simp only[execOp,hE.raw hX,hr,IC,Iv,IJ,Oper.upon];exact k F _ _ h0 (hE.put hd (by simp only[SV.ok,SV.oks];exact⟨[_,_],rfl,hk1,hv1,trivial⟩)) hS
end
end Go.Sim
namespace Go.Sim
open Go
def VY (h1 h2:dv):dv:=λb=>match h1 b with|some o=>some o|none=>h2 b
theorem Eo (F:Fz) (h1 h2:dv):(F.add h1).add h2=F.add (VY h1 h2):=by simp only[Fz.add,VY,Fz.mk.injEq,LR];funext b;cases F.blk b with|some o=>simp|none=>cases h1 b<;>simp
theorem DP:VY h1 h2 b≠none↔h1 b≠none∨h2 b≠none:=by unfold VY;cases h1 b<;>simp
def SO (F:Fz):List bM→dv→Prop|[],h=>h=dv.emp|r::rs,h=>∃h1 h2,r.holds F h1∧SO F rs h2∧(∀b,h2 b≠none→h1 b=none)∧h=VY h1 h2
theorem Og:∀{rs:List bM} {F:Fz},q8 G F w (rs++L)→∃h,SO G rs h∧yE F h∧q8 G (F.add h) w L|[],F,hs=>⟨dv.emp,rfl,λb hb=>absurd rfl hb,by rw[Nm];exact hs⟩|r::rs,F,⟨h1,a,b,c⟩=>by obtain⟨h2,x,y,z⟩:=Og (rs:=rs) c;refine⟨VY h1 h2,⟨h1,h2,a,x,λq hq=>(Nb.1 (y q hq)).2,rfl⟩,λq hq=>?_,by rw[←Eo];exact z⟩;rcases DP.1 hq with h|h;exact b q h;exact(Nb.1 (y q h)).1
theorem N5:∀{rs:List bM} {F:Fz} {h:dv},SO G rs h→yE F h→q8 G (F.add h) w L→q8 G F w (rs++L)|[],F,h,e,_,hs=>by cases e;rw[Nm] at hs;exact hs|r::rs,F,h,⟨h1,h2,a,x,y,e⟩,ha,hs=>by subst e;rw[←Eo] at hs;refine⟨h1,a,λq hq=>ha q (DP.2 (.inl hq)),N5 (rs:=rs) x (λq hq=>Nb.2 ⟨ha q (DP.2 (.inr hq)),y q hq⟩) hs⟩
def la {α:Type} (K:Kd α):Prop:=∀F G cs x,K.rd F cs x→K.rd G cs x
theorem ud {α:Type} {K:Kd α} (hK:la K) {F G:Fz}:∀{xs:List α} {cs:List Value},cj K F cs xs→cj K G cs xs|[],_,h=>h|x::xs,cs,⟨c,d,e,h,r⟩=>⟨c,d,e,hK _ _ _ _ h,ud hK r⟩
theorem vv {α:Type} {K:Kd α} (hK:la K) {F G:Fz} {v:Value} {e:TypeId} {xs:List α} {h:dv} (hh:(bM.own K v e xs).holds F h):(bM.own K v e xs).holds G h:=by rcases hh with hh|⟨g,cap,cur,a1,a2,a3,a4,a5,a6⟩;exact .inl hh;exact .inr ⟨g,cap,cur,a1,a2,a3,a4,a5,ud hK a6⟩
theorem la.int:la (bD k):=λ_ _ _ _ h=>h
def M8:=@la.int
theorem la.raw:la fd:=λ_ _ _ _ h=>h
theorem la.arr {α:Type} {K:Kd α} {m:Nat} (h:la K):la (bR m K):=λ_ _ _ _ ⟨a,b⟩=>⟨a,ud h b⟩
theorem Oh {f g:kJ β} (hf:la f.K) (hg:la g.K):la (pH [f,g]):=λF G cs x ⟨c,d,e,h,c2,d2,e2,h2,r⟩=>⟨c,d,e,hf _ _ _ _ h,c2,d2,e2,hg _ _ _ _ h2,r⟩
section
variable {β γ τ:Type} (KR:Kd γ) (KT:Kd τ) (mk:β→Value→γ) (tg:β→List τ) (TE TT:TypeId)
def qC (xs:List β) (qs:List Value):List bM:=List.zipWith (λx q=>bM.own KT q TT (tg x)) xs qs
def mt (v:Value) (xs:List β):dv→Prop:=λh=>∃(F:Fz) (qs:List Value),qs.length=xs.length∧SO F (.own KR v TE (List.zipWith mk xs qs)::qC KT tg TT xs qs) h
abbrev qx (v:Value) (xs:List β):bM:= .any (mt KR KT mk tg TE TT v xs)
end
section
variable {P:Program} {ops:Array Oper} {Q:Exit→Act→World→Prop} {rest:List Oper} {F0:Fz} {n:Nat} {E:List (Nat×SV)} {L:List bM}
variable {d:Nat} {op:Op} {ty:TypeId} {pos:String} {aft:Array Edge} {s:SV}
variable {β γ τ:Type} {KR:Kd γ} {KT:Kd τ} {mk:β→Value→γ} {tg:β→List τ} {TE TT:TypeId} {v:Value} {xs:List β}
theorem AL (hT:la KT):∀{xs:List β} {qs:List Value} {h:dv},SO F (qC KT tg TT xs qs) h→SO G (qC KT tg TT xs qs) h|[],qs,h,hh=>(show h=dv.emp from hh)|_::_,[],h,hh=>(show h=dv.emp from hh)|x::xs,q::qs,h,⟨h1,h2,a,b,c,e⟩=>⟨h1,h2,vv hT a,AL hT (xs:=xs) (qs:=qs) b,c,e⟩
theorem St.manyOpen (hR:la KR) (hT:la KT) (hs:St F w (qx KR KT mk tg TE TT v xs::L)):∃qs,qs.length=xs.length∧St F w (.own KR v TE (List.zipWith mk xs qs)::(qC KT tg TT xs qs++L)):=by obtain⟨h,⟨F',qs,hl,h1,h2,a,b,c,e⟩,hap,d⟩:=hs;exact⟨qs,hl,N5 (rs:= .own KR v TE (List.zipWith mk xs qs)::qC KT tg TT xs qs) ⟨h1,h2,vv hR a,AL hT b,c,e⟩ hap d⟩
theorem Ni {qs:List Value} (hl:qs.length=xs.length) (hs:St F w (.own KR v TE (List.zipWith mk xs qs)::(qC KT tg TT xs qs++L))):St F w (qx KR KT mk tg TE TT v xs::L):=by obtain⟨h,hb,hap,hs'⟩:=Og (rs:= .own KR v TE (List.zipWith mk xs qs)::qC KT tg TT xs qs) hs;exact⟨h,⟨F,qs,hl,hb⟩,hap,hs'⟩
theorem Om (k:bl F0 n E (qx KR KT mk tg TE TT (.slice none 0 0) ([]:List β)::L) X):bl F0 n E L X:=λF a w h0 hE hS=>by refine k F a w h0 hE (Ni (qs:=[]) rfl ?_);refine⟨dv.emp,.inl ⟨rfl,rfl,rfl⟩,λb hb=>absurd rfl hb,?_⟩;rw[Nm];exact hS
theorem zip_push.{u} {ε:Type u} (f:β→Value→ε):∀{xs:List β} {qs:List Value} {x:β} {q:Value},qs.length=xs.length→List.zipWith f (xs++[x]) (qs++[q])=List.zipWith f xs qs++[f x q]|[],[],_,_,_=>rfl|x::xs,q::qs,y,p,h=>by simp only[JS,List.zipWith_cons_cons];rw[zip_push f (by simpa using h)]|[],_::_,_,_,h=>by simp at h|_::_,[],_,_,h=>by simp at h
theorem M9 {z:γ} {bytes:Nat} {t u:TypeId} {S V:Operand} {x:β} {q:Value} {zs:List β} (hR:la KR) (g:la KT) (hz:Go.Sim.app xs [x]=some zs) (hT:P.underlying t=some (.slice TE)) (hu:Rw P u=true) (he:AT P TE KR z bytes) (hS:ev E S=some (.raw v)) (hV:ev E V=some s) (hr:Src P s KR [mk x q]) (hd:Nat.blt d n=true) (k:∀v',bl F0 n ((d,.raw v')::E) (qx KR KT mk tg TE TT v' zs::L) (wpList P h Q c)):bl F0 n E (qx KR KT mk tg TE TT v xs:: .own KT q TT (tg x)::L) (wpList P h Q (⟨some d,.call ⟨.builtin .append,#[S,V],#[t,u]⟩,ty,pos,aft,none⟩::c)):=λF a w h0 hE i=>by obtain⟨qs,hl,j⟩:=i.manyOpen hR g;obtain⟨b,rfl⟩:=yT hz;(have l:Go.Sim.app (List.zipWith mk xs qs) [mk x q]=some (List.zipWith mk xs qs++[mk x q]):=by(have f:(List.zipWith mk xs qs).length=xs.length:=by simp[hl]);have:=hz;simp only[Go.Sim.app];rw[Jm];rw[f];simpa using b);refine Od (L:=qC KT tg TT xs qs++.own KT q TT (tg x)::L) l hT hu he hS hV hr hd (λv' F a w h0 hE m=>?_) F a w h0 hE j;refine k v' F a w h0 hE (Ni (qs:=qs++[q]) (by simp[hl]) ?_);rw[zip_push mk hl];have e:qC KT tg TT (xs++[x]) (qs++[q])=qC KT tg TT xs qs++[.own KT q TT (tg x)]:=zip_push _ hl;rw[e];simpa using m
theorem AM {KB:Kd β} (a:∀x q,(cc KT).val F q (tg x)→∀cs,KR.rd F cs (mk x q)→KB.rd F cs x):∀{xs:List β} {qs:List Value} {cs:List Value},qs.length=xs.length→(∀p∈List.zip xs qs,(cc KT).val F p.2 (tg p.1))→cj KR F cs (List.zipWith mk xs qs)→cj KB F cs xs|[],[],_,_,_,h=>h|x::xs,q::qs,cs,hl,hv,⟨c,d,e,h,r⟩=>⟨c,d,e,a x q (hv (x,q) (by simp)) c h,AM a (by simpa using hl) (λp hp=>hv p (by simp[hp])) r⟩|[],_::_,_,h,_,_=>by simp at h|_::_,[],_,h,_,_=>by simp at h
theorem HG {K:Kd α} {xs:List α} {F:Fz} (hh:(bM.own K v e xs).holds (F.add h) h) (a:yE F h):(cc K).val (F.add h) v xs:=by rcases hh with⟨rfl,rfl,_⟩|⟨g,cap,cur,rfl,rfl,h3,h4,h5,h6⟩;exact⟨[.slice none 0 0],⟨none,0,rfl,IL _,.inl rfl⟩,rfl⟩;refine⟨[.slice (some ⟨g,0,none⟩) xs.length cap],⟨_,cap,rfl,h3,.inr ⟨⟨g,0,none⟩,cur,e,(0,0),rfl,rfl,?_,?_,by simpa using h6⟩⟩,rfl⟩;have hg:F.blk g=none:=a g (by rw[Mo];simp);simp only[Fz.add,hg];exact Mo _ _;have:xs.length*K.n≤cap*K.n:=Iz _ h3;simp only;omega
theorem OB:∀{xs:List β} {qs:List Value} {F:Fz} {w:World},St F w (qC KT tg TT xs qs++L)→∃G,F≤G∧St G w L∧∀p∈List.zip xs qs,(cc KT).val G p.2 (tg p.1)|[],qs,F,w,h=>⟨F,NC F,by simpa[qC] using h,λp hp=>by simp at hp⟩|_::_,[],F,w,h=>⟨F,NC F,by simpa[qC] using h,λp hp=>by simp at hp⟩|x::xs,q::qs,F,w,h=>by obtain⟨f,hh,a,b,hS⟩:=St.freeze (r:= .own KT q TT (tg x)) (L:=qC KT tg TT xs qs++L) h;obtain⟨G,h1,h2,h3⟩:=OB (xs:=xs) (qs:=qs) hS;refine⟨G,Nj b h1,h2,λp hp=>?_⟩;rcases I9.1 (by simpa using hp) with rfl|hp;exact(HG hh a).mono h1;exact h3 p hp
theorem Nl {KB:Kd β} (hR:la KR) (hT:la KT) (hn:KB.n=KR.n) (c:∀F x q,(cc KT).val F q (tg x)→∀cs,KR.rd F cs (mk x q)→KB.rd F cs x) (k:bl F0 n E (.own KB v TE xs::L) X):bl F0 n E (qx KR KT mk tg TE TT v xs::L) X:=λF a w h0 hE hS=>by obtain⟨qs,hl,hS2⟩:=hS.manyOpen hR hT;have d:St F w (qC KT tg TT xs qs++(.own KR v TE (List.zipWith mk xs qs)::L)):=hS2.perm KM.symm;obtain⟨G,hg,e,hv⟩:=OB d;refine k G a w (Nj h0 hg) (hE.mono hg) (e.map λf hf=>?_);(have b:(List.zipWith mk xs qs).length=xs.length:=by simp[hl]);rcases hf with⟨h1,h2,h3⟩|⟨g,cap,cur,a1,a2,a3,a4,a5,a6⟩;refine .inl ⟨h1,?_,h3⟩;have:=congrArg List.length h2;rw[b] at this;exact IS this;rw[b] at a1 a3 a6;exact .inr ⟨g,cap,cur,a1,a2,a3,a4,by rw[hn];exact a5,by rw[hn];exact AM (c G) hl hv a6⟩
theorem NO {i:Int} (hR:la KR) (hT:la KT) (hi:idx xs i=some x)
   (k:∀(q:Value) (ys:List γ) (Rs:List bM),ys.length=xs.length→idx ys i=some (mk x q)→
    (∀x',mk x' q=mk x q→∀F w L',St F w (.own KR v TE ys:: .own KT q TT (tg x')::(Rs++L'))→St F w (qx KR KT mk tg TE TT v (xs.set i.toNat x')::L'))→
    bl F0 n E (.own KR v TE ys:: .own KT q TT (tg x)::(Rs++L)) X):bl F0 n E (qx KR KT mk tg TE TT v xs::L) X:=λF a w h0 hE hS=>by
 obtain⟨qs,hl,d⟩:=hS.manyOpen hR hT
 obtain⟨h1,h2,h3⟩:=kY hi
 have e:i.toNat<xs.length:=(It.1 h3).1
 have b:i.toNat<qs.length:=by omega
 have hx:xs[i.toNat]=x:=(It.1 h3).2
 have f:∀x',qC KT tg TT (xs.set i.toNat x') qs=qC KT tg TT (xs.take i.toNat) (qs.take i.toNat)++.own KT qs[i.toNat] TT (tg x')::qC KT tg TT (xs.drop (i.toNat+1)) (qs.drop (i.toNat+1)):=λx'=>by
   unfold qC
   rw[J6,Jm e]
   conv=>lhs;rw[show qs=qs.take i.toNat++qs[i.toNat]::qs.drop (i.toNat+1) by simp]
   rw[List.zipWith_append (by simp;omega)]
   rfl
 have g:xs.set i.toNat x=xs:=by rw[←hx];simp
 have c:=f x
 rw[g] at c
 rw[c] at d
 refine k qs[i.toNat] (List.zipWith mk xs qs) (qC KT tg TT (xs.take i.toNat) (qs.take i.toNat)++qC KT tg TT (xs.drop (i.toNat+1)) (qs.drop (i.toNat+1))) (by simp[hl]) ?_ (λx' he F w L' h=>?_) F a w h0 hE (d.perm ?_)
 · unfold idx
   rw[Jm h1,LV,h3]
   simp[b]
 · refine Ni (qs:=qs) (by simp[hl]) ?_
   have hz:List.zipWith mk (xs.set i.toNat x') qs=List.zipWith mk xs qs:=by
    refine KG λj=>?_
    rw[LV,LV,LM]
    by_cases hj:i.toNat=j
    · subst hj
      rw[Jm rfl,Jm e,h3]
      simp only[IW b,he]
    · rw[Jf hj]
   rw[hz,f x']
   refine h.perm (List.Perm.cons _ ?_)
   simp only[IR,JS]
   exact KM.symm
 · refine List.Perm.cons _ ?_
   simp only[IR,JS]
   exact KM
end
end Go.Sim
namespace Go.Sim
open Go
section
variable {P:Program} {ops:Array Oper} {Q:Exit→Act→World→Prop} {rest:List Oper} {F0:Fz} {n:Nat} {E:List (Nat×SV)} {L:List bM}
variable {d:Nat} {op:Op} {ty:TypeId} {pos:String} {aft:Array Edge} {s:SV}
theorem NT {β γ τ:Type} {KR:Kd γ} {KT:Kd τ} {mk:β→Value→γ} {tg:β→List τ} {TE TT e t:TypeId} {v:Value} {xs:List β} {X:Operand} (hR:la KR) (hT:la KT) (ht:P.underlying t=some (.slice e)) (hX:ev E X=some (.raw v)) (hd:Nat.blt d n=true) (k:bl F0 n ((d,.raw (.int .i64 xs.length))::E) (qx KR KT mk tg TE TT v xs::L) (wpList P f Q b)):bl F0 n E (qx KR KT mk tg TE TT v xs::L) (wpList P f Q (⟨some d,.call ⟨.builtin .len,#[X],#[t]⟩,ty,pos,aft,none⟩::b)):=λF a w h0 hE hS=>by obtain⟨qs,hl,g⟩:=hS.manyOpen hR hT;(have c:(List.zipWith mk xs qs).length=xs.length:=by simp[hl]);refine O1 (L:=qC KT tg TT xs qs++L) ht hX hd (λF a w h0 hE h=>?_) F a w h0 hE g;rw[c] at hE;exact k F a w h0 hE (Ni hl h)
theorem Na {β γ τ:Type} {KR:Kd γ} {KT:Kd τ} {mk:β→Value→γ} {tg:β→List τ} {TE TT:TypeId} {v:Value} {xs:List β} {X:Act→World→Prop} (hR:la KR) (hT:la KT) (k:v.oneCell'=true→bl F0 n E (qx KR KT mk tg TE TT v xs::L) X):bl F0 n E (qx KR KT mk tg TE TT v xs::L) X:=λF a w h0 hE hS=>by obtain⟨qs,hl,hS2⟩:=hS.manyOpen hR hT;obtain⟨f,hf,_⟩:=hS2;refine k ?_ F a w h0 hE hS;rcases hf with⟨rfl,_⟩|⟨g,cap,cur,rfl,_⟩<;>rfl
theorem OV (k:bl F0 n E (bif b then L else r::L) X):bl F0 n E (r::L) X:=by cases b with|true=>exact N1 k|false=>exact k
theorem NF (h:∀F w,St F w L→St F w L') (k:bl F0 n E L' X):bl F0 n E L X:=λF a w h0 hE hS=>k F a w h0 hE (h F w hS)
end
end Go.Sim
namespace Go.Sim
open Go
structure Tk where
 deps:List Nat
 res:(Nat→Value)→bM
 ok:∀bs bs':Nat→Value,(∀k∈deps,bs k=bs' k)→res bs=res bs'
def Ua (r:bM):Tk:=⟨[],λ_=>r,λ_ _ _=>rfl⟩
def yH (k:Nat) (r:Value→bM):Tk:=⟨[k],λbs=>r (bs k),λ_ _ h=>by rw[h k (by simp)]⟩
structure Sk where
 deps:List Nat
 sv:(Nat→Value)→SV
 ok:∀bs bs':Nat→Value,(∀k∈deps,bs k=bs' k)→sv bs=sv bs'
def c8 (r:SV):Sk:=⟨[],λ_=>r,λ_ _ _=>rfl⟩
def uH (k:Nat) (r:Value→SV):Sk:=⟨[k],λbs=>r (bs k),λ_ _ h=>by rw[h k (by simp)]⟩
structure xG where
 val:Sk
 used:List Nat
 outs:List (Nat×Tk)
 rds:List Nat:=[]
structure L_ where
 id:Nat
 prod:Option Nat
 tk:Tk
def RT:List xG→Nat→List L_|[],_=>[]|it::r,j=>it.outs.map (λx=>⟨x.1,some j,x.2⟩)++RT r (j+1)
def oH (a:List (Nat×bM)) (its:List xG):List L_:=a.map (λx=>⟨x.1,none,Ua x.2⟩)++RT its 0
def lV:List L_→Nat→Option L_|[],_=>none|t::r,i=>cond (Nat.beq t.id i) (some t) (lV r i)
def Q3 (tab:List L_):List Nat→(Nat→Value)→List bM|[],_=>[]|i::r,bs=>match lV tab i with|some t=>t.tk.res bs::Q3 tab r bs|none=>Q3 tab r bs
def mZ (tab:List L_):List Nat→(Nat→Value)→List (List bM)|[],_=>[[]]|[i],bs=>[match lV tab i with|some t=>[t.tk.res bs]|none=>[]]|i::r,bs=>(match lV tab i with|some t=>[t.tk.res bs]|none=>[])::mZ tab r bs
def zg:List xG→Nat→Nat→Option Nat|[],_,_=>none|it::r,j,i=>cond (md i it.used) (some j) (zg r (j+1) i)
def oj (its:List xG):List Nat:=its.flatMap (·.used)
def RD:List L_→List Nat→(Nat→Value)→List bM|[],_,_=>[]|t::r,us,bs=>cond (md t.id us) (RD r us bs) (t.tk.res bs::RD r us bs)
def R3 (bs:Nat→Value) (k:Nat) (v:Value):Nat→Value:=λq=>cond (Nat.beq q k) v (bs q)
theorem GQ (bs:Nat→Value) (v:Value) (h:q≠k):R3 bs k v q=bs q:=by unfold R3;cases hb:Nat.beq q k with|false=>rfl|true=>exact absurd (Jz hb) h
def Ri (l:List Oper) (g:List Nat) (k j:Nat):Bool:=Nat.blt k g.length&&md (g.getD k 0) ((oe l []).getD (g.getD j 0) [])
def wb (l:List Oper) (g:List Nat) (tab:List L_) (its:List xG) (us:List Nat) (k:Nat):Bool→Option Nat→List Nat→Bool|_,a,[]=>(match a with|some c=>Ri l g k c|none=>true)|first,a,i::r=>match lV tab i with|some t=>(cond first (match t.prod with|some q=>Ri l g q k|none=>true) (match t.prod,a with|some q,some c=>Nat.beq q c|_,_=>false))&& !md i us&&wb l g tab its us k false (zg its 0 i) r|none=>false
def US (l:List Oper) (g:List Nat) (tab:List L_) (it:xG) (j:Nat):Bool:=it.used.all (λi=>match lV tab i with|some t=>(match t.prod with|some q=>Ri l g q j|none=>true)|none=>false)&&it.outs.all (λx=>x.2.deps.all λk=>Nat.beq k j||Ri l g k j)&&it.val.deps.all (λk=>Nat.beq k j||Ri l g k j)
def zh (l:List Oper) (g:List Nat) (tab:List L_) (a:List xG):List xG→Nat→Bool|[],_=>true|it::r,j=>US l g tab it j&&(match it.rds with|[]=>true|rs=>wb l g tab a it.used j true none rs)&&zh l g tab a r (j+1)
def Ta (l:List Oper) (g:List Nat) (a:List (Nat×bM)) (its:List xG):Bool:=sC ((oH a its).map (·.id))&&sC (oj its)&&zh l g (oH a its) its its 0
theorem ue:∀{its:List xG} {j k:Nat} {it:xG},zh l g tab a its j=true→its[k]? =some it→US l g tab it (j+k)=true∧(it.rds=[]∨wb l g tab a it.used (j+k) true none it.rds=true)|[],_,_,_,_,h=>by simp at h|it0::r,j,0,it,h,e=>(by simp at e;subst e;simp only[zh,Ix] at h;refine⟨h.1.1,?_⟩;have h2:=h.1.2;cases hr:it0.rds with|nil=>exact .inl rfl|cons x xs=>rw[hr] at h2;exact .inr h2)|it0::r,j,k+1,it,h,e=>by simp only[zh,Ix] at h;have:=ue (j:=j+1) (k:=k) h.2 (by simpa using e);rw[show j+(k+1)=j+1+k by omega];exact this
theorem zi:∀{its:List xG} {j:Nat},zg its j i=none→∀(q:Nat) (it:xG),its[q]? =some it→i∉it.used|[],_,_,q,it,h=>by simp at h|a::r,j,h,q,it,hq=>by rw[zg] at h;cases hm:md i a.used with|true=>rw[hm] at h;cases h|false=>rw[hm,Il] at h;cases q with|zero=>simp at hq;subst hq;exact λhi=>by rw[dm.2 hi] at hm;cases hm|succ q=>exact zi h q it (by simpa using hq)
theorem zj:∀{its:List xG} {j:Nat},zg its j i=some c→∃q it,c=j+q∧its[q]? =some it∧i∈it.used|[],_,h=>by cases h|a::r,j,h=>by rw[zg] at h;cases hm:md i a.used with|true=>rw[hm,Im] at h;cases h;exact⟨0,a,by omega,by simp,dm.1 hm⟩|false=>rw[hm,Il] at h;obtain⟨q,it,h1,h2,h3⟩:=zj h;exact⟨q+1,it,by omega,by simpa using h2,h3⟩
theorem uf {t:L_}:∀{tab:List L_},lV tab i=some t→t∈tab∧t.id=i|[],h=>by cases h|u::r,h=>by rw[lV] at h;cases hb:Nat.beq u.id i with|true=>rw[hb,Im] at h;cases h;exact⟨by simp,Jz hb⟩|false=>rw[hb,Il] at h;have:=uf h;exact⟨by simp[this.1],this.2⟩
theorem vw {tab:List L_} (hn:(tab.map (·.id)).Nodup) {t:L_} (h:t∈tab):lV tab t.id=some t:=by induction tab with|nil=>cases h|cons u r ih=>rw[lV];rcases I9.1 h with rfl|h;rw[Nat.beq_refl];rfl;(have a:u.id≠t.id:=λe=>by simp only[IU,Ki,Jd] at hn;exact hn.1 ⟨t,h,e.symm⟩);(have:Nat.beq u.id t.id=false:=by cases hb:Nat.beq u.id t.id with|false=>rfl|true=>exact absurd (Jz hb) a);rw[this,Il];exact ih (Ki.1 (by simpa using hn)).2 h
theorem H4 {tab:List L_} (hn:(tab.map (·.id)).Nodup) {t u:L_} (ht:t∈tab) (hu:u∈tab) (e:t.id=u.id):t=u:=by have h1:=vw hn ht;have h2:=vw hn hu;rw[e,h2] at h1;exact(Option.some.inj h1).symm
theorem qy:∀{its:List xG} {j:Nat},t∈RT its j↔∃k it x,its[k]? =some it∧x∈it.outs∧t=⟨x.1,some (j+k),x.2⟩|[],j=>by simp[RT]|it::r,j=>by simp only[RT,IK,Jd,qy (its:=r) (j:=j+1)];constructor;rintro(⟨x,hx,rfl⟩|⟨k,it',x,h1,h2,rfl⟩);exact⟨0,it,x,by simp,hx,rfl⟩;exact⟨k+1,it',x,by simpa using h1,h2,by rw[show j+(k+1)=j+1+k by omega]⟩;rintro⟨k,it',x,h1,h2,rfl⟩;cases k with|zero=>simp at h1;subst h1;exact .inl ⟨x,h2,rfl⟩|succ k=>exact .inr ⟨k,it',x,by simpa using h1,h2,by rw[show j+(k+1)=j+1+k by omega]⟩
theorem C6:∀{tab:List L_},RD tab us bs=(tab.filter (λt=> !md t.id us)).map (λt=>t.tk.res bs)|[]=>rfl|t::r=>by rw[RD,Lq];cases md t.id us<;>simp[C6 (tab:=r)]
theorem C7:∀{us:List Nat},Q3 tab us bs=(us.filterMap (lV tab)).map (λt=>t.tk.res bs)|[]=>rfl|i::r=>by rw[Q3,List.filterMap_cons];cases lV tab i<;>simp[C7 (us:=r)]
theorem rm {k i:Nat} {it:xG} (h:its[k]? =some it) (hi:i∈it.used):i∈oj its:=Lr.2 ⟨it,I0 h,hi⟩
theorem wc:∀{its:List xG} {j k i:Nat} {it a:xG},(oj its).Nodup→its[j]? =some it→its[k]? =some a→i∈it.used→i∈a.used→j=k|[],_,_,_,_,_,_,h,_,_,_=>by simp at h|b::r,j,k,i,it,a,hn,hj,hk,h1,h2=>by(have c:(b.used++oj r).Nodup:=by simpa[oj] using hn);obtain⟨n1,n2,n3⟩:=J9.1 c;cases j with|zero=>(simp at hj;subst hj;cases k with|zero=>rfl|succ k=>exact absurd rfl (n3 i h1 i (rm (by simpa using hk) h2)))|succ j=>cases k with|zero=>simp at hk;subst hk;exact absurd rfl (n3 i h2 i (rm (by simpa using hj) h1))|succ k=>have e:=wc (its:=r) (j:=j) (k:=k) n2 (by simpa using hj) (by simpa using hk) h1 h2;omega
theorem zk:∀{its:List xG} {k:Nat} {it:xG},(oj its).Nodup→its[k]? =some it→it.used.Nodup|[],_,_,_,h=>by simp at h|b::r,k,it,hn,h=>by(have a:(b.used++oj r).Nodup:=by simpa[oj] using hn);cases k with|zero=>simp at h;subst h;exact(J9.1 a).1|succ k=>exact zk (J9.1 a).2.1 (by simpa using h)
def qz (G:Fz) (n:Nat) (L:List bM) (k:Nat) (bs:Nat→Value) (it:xG) (b:Option Nat):Act→World→Prop:=λa w=>∃H v,G≤H∧(match b with|some d=>∃u,a.tmps[d]? =some u∧(it.val.sv (R3 bs k v)).ok H u|none=>True)∧St H w (it.outs.map (λx=>x.2.res (R3 bs k v))++L)∧a.defers=[]
def X9:Option Nat→SV→List (Nat×SV)→List (Nat×SV)|some d,s,E=>(d,s)::E|none,_,E=>E
def rD (P:Program) (n:Nat) (tab:List L_) (Lf:List bM→List bM) (a:Array Oper) (F0:Fz) (bs:Nat→Value) (K:List (Nat×SV)→Prop):Nat→List xG→List (List Nat)→List Oper→List (Nat×SV)→Prop|j,it::its,us::p,o::l,E=>(∀R,R∈mZ tab it.rds bs→∀G T,F0≤G→bl G n (jk us E) (Q3 tab it.used bs++(R++Lf T)) (wpList P a (Exit.then (qz G n (R++Lf T) j bs it o.dst) QF) [o]))∧rD P n tab Lf a F0 bs K (j+1) its p l (X9 o.dst (it.val.sv bs) E)|_,[],[],[],E=>K E|_,_,_,_,_=>False
section
variable {P:Program} {ops:Array Oper} {Q:Exit→Act→World→Prop} {rest:List Oper} {F0:Fz} {n:Nat} {E:List (Nat×SV)} {L:List bM}
variable {d:Nat} {op:Op} {ty:TypeId} {pos:String} {aft:Array Edge} {s:SV} {Lf:List bM→List bM} {tab:List L_}
theorem C8:∀{its:List xG} {p:List (List Nat)} {l:List Oper} {E:List (Nat×SV)} {j:Nat},rD P n tab Lf a F0 bs K j its p l E→its.length=l.length∧K (m9 l (its.map (λit=>it.val.sv bs)) E)∧∀(i:Nat) o us it,l[i]? =some o→p[i]? =some us→its[i]? =some it→∀R,R∈mZ tab it.rds bs→∀G T,F0≤G→bl G n (jk us (m9 (l.take i) ((its.take i).map (λit=>it.val.sv bs)) E)) (Q3 tab it.used bs++(R++Lf T)) (wpList P a (Exit.then (qz G n (R++Lf T) (j+i) bs it o.dst) QF) [o])|[],[],[],E,j,h=>⟨rfl,by simpa[m9,rD] using h,λi o us it hi=>by simp at hi⟩|it::its,us::p,o::l,E,j,h=>(by obtain⟨h1,h2⟩:=h;obtain⟨e1,e2,e3⟩:=C8 h2;refine⟨by simp[e1],?_,λi q b c hi hp hs=>?_⟩;rw[IU,m9];(cases hd:o.dst with|none=>rw[hd] at e2;exact e2|some d=>rw[hd] at e2;exact e2);cases i with|zero=>simp at hi hp hs;subst hi;subst hp;subst hs;simpa[m9] using h1|succ i=>have:=e3 i q b c (by simpa using hi) (by simpa using hp) (by simpa using hs);rw[List.take_succ_cons,List.take_succ_cons,IU,m9,show j+(i+1)=j+1+i by omega];cases hd:o.dst with|none=>rw[hd] at this;exact this|some d=>rw[hd] at this;exact this)|[],_::_,_,_,_,h=>by simp[rD] at h|[],[],_::_,_,_,h=>by simp[rD] at h|_::_,[],_,_,_,h=>by simp[rD] at h|_::_,_::_,[],_,_,h=>by simp[rD] at h
theorem C9 {o:Oper} {a:Act} {it:xG} (hi:ops[i]? =some o)
   (h:wpList P ops (Exit.then (qz G n L k bs it o.dst) QF) [o] a w) (hlt:∀d,o.dst=some d→d<a.tmps.size) (hdef:a.defers=[]):
   wpOp P ops Q i (λa' w'=>∃v x H,a'=a.put o.dst v∧G≤H∧(∀d,o.dst=some d→(it.val.sv (R3 bs k x)).ok H v)∧St H w' (it.outs.map (λy=>y.2.res (R3 bs k x))++L)) a w:=by
 have fin:∀v w',qz G n L k bs it o.dst (a.put o.dst v) w'→∃v' x H,a.put o.dst v=a.put o.dst v'∧G≤H∧(∀d,o.dst=some d→(it.val.sv (R3 bs k x)).ok H v')∧St H w' (it.outs.map (λy=>y.2.res (R3 bs k x))++L):=λv w' ⟨H,x,h1,h2,h3,_⟩=>by
   refine⟨v,x,H,rfl,h1,λd hd=>?_,h3⟩
   rw[hd] at h2
   obtain⟨u,hu,ho⟩:=h2
   simp only[Act.put] at hu
   rw[I6 (hlt d hd)] at hu
   cases hu;exact ho
 unfold wpOp
 simp only[hi]
 unfold wpList at h
 split
 · rename_i hw
   rw[Jm hw] at h
   refine .inl ?_
   rcases h with h|⟨_,hlets⟩
   case inr=>exact absurd hlets (λhl=>by simp[LetsOut,QF,Exit.then] at hl)
   unfold Oper.wp at*
   generalize (execOp a.eval o).run P w=r at*
   cases r with
   |ok nx w'=>
    cases nx<;>simp only[Oper.upon] at h⊢
    case value u=>exact fin _ _ h
    case skip=>exact fin _ _ h
    case defer dd=>
     obtain⟨H,x,h1,h2,h3,h4⟩:=h
     exfalso
     cases hd:o.dst<;>simp[Act.put,hd] at h4
    case enter f args=>
     refine Calls.mono h λe w'' he=>?_
     cases e with
     |returned u=>exact fin _ _ he
     |panicked c=>exact he.elim
     |outgrown=>obtain⟨_,_,x⟩:=he;exact x.elim
    case row row args=>exact Rows.mono h λu w'' he=>fin _ _ he
   |halt x w'=>
    cases x<;>simp only[Oper.upon] at h⊢<;>exact h.elim
 · rename_i hw
   rw[Jf hw] at h
   exact fin _ _ h
def O_ (g:List Nat) (a:Array Bool) (q:Nat):Prop:=∃i,g[q]? =some i∧a.getD i false=true
def Ia (tab:List L_) (its:List xG) (g:List Nat) (a:Array Bool) (t:L_):Prop:=t∈tab∧(∀q,t.prod=some q→O_ g a q)∧∀q it,its[q]? =some it→t.id∈it.used→¬O_ g a q
structure V6 (F:Fz) (n:Nat) (tab:List L_) (Lf:List bM→List bM) (L0:List bM) (l:List Oper) (D g:List Nat) (its:List xG) (E:List (Nat×SV)) (listed:Array Bool) (a:Act) (w:World):Prop where
 size:listed.size=l.length
 closed:∀j o,l[j]? =some o→listed.getD j false=true→∀e∈kG o,listed.getD e false=true
 dl:∀j∈D,j<l.length→listed.getD j false=true
 ex:∀j,j<l.length→listed.getD j false=true→j∈D∨j∈g
 st:∃G,∃bs:Nat→Value,∃ks:List L_,F≤G∧St G w (Lf (ks.map (λt=>t.tk.res bs)++L0))∧(ks.map (·.id)).Nodup∧(∀t,t∈ks↔Ia tab its g listed t)∧a.defers=[]∧a.tmps.size=n∧
  (∀(k i:Nat) (o:Oper) (d:Nat) (it:xG),g[k]? =some i→l[i]? =some o→o.dst=some d→its[k]? =some it→listed.getD i false=true→∃v,a.tmps[d]? =some v∧(it.val.sv bs).ok G v)∧
  (∀(t:Nat) (s:SV),look E t=some s→(∀(i:Nat) (o:Oper),i∈g→l[i]? =some o→listed.getD i false=true→o.dst≠some t)→∃v,a.tmps[t]? =some v∧s.ok G v)
theorem m5 {ks:List L_} (h:(ks.map (·.id)).Nodup):ks.Nodup:=(LQ.1 h).imp λa e=>a (by rw[e])
set_option maxHeartbeats 1600000 in
theorem GR {l:List Oper} {D g:List Nat} {p:List (List Nat)} {its:List xG} {ini:List (Nat×bM)} {F:Fz} {L0:List bM} (hLf:∀r T,(r::Lf T).Perm (Lf (r::T))) (hB:GB l D g p) (hits:its.length=(pick l g).length) (hT:Ta l g ini its=true)
  (hn:∀o∈pick l g,∀d,o.dst=some d→d<n)
  (hop:∀(bs:Nat→Value) (k:Nat) o us it,(pick l g)[k]? =some o→p[k]? =some us→its[k]? =some it→∀R,R∈mZ (oH ini its) it.rds bs→∀G T,F≤G→bl G n (jk us (m9 ((pick l g).take k) ((its.take k).map (λit=>it.val.sv bs)) E)) (Q3 (oH ini its) it.used bs++(R++Lf T)) (wpList P l.toArray (Exit.then (qz G n (R++Lf T) k bs it o.dst) QF) [o]))
  (hfin:∀(bs:Nat→Value) G a w,F≤G→Env G a n (m9 (pick l g) (its.map (λit=>it.val.sv bs)) E)→St G w (Lf (RD (oH ini its) (oj its) bs++L0))→pZ P Q l (g++D) a w):
  ∀(fuel:Nat) (listed:Array Bool) (a:Act) (w:World),Rm listed≤fuel→V6 F n (oH ini its) Lf L0 l D g its E listed a w→wpAny P .any l.toArray Q fuel listed a w:=by
 have hlen:=C0 hB.lt
 simp only[Ta,Ix] at hT
 obtain⟨⟨hT1,hT2⟩,hT3⟩:=hT
 replace hT1:=me hT1
 replace hT2:=me hT2
 have hitB:∀{k:Nat} {it:xG},its[k]? =some it→US l g (oH ini its) it k=true:=λ{k it} h=>by have:=(ue hT3 h).1;rwa [IX] at this
 have hrdB:∀{k:Nat} {it:xG},its[k]? =some it→it.rds=[]∨wb l g (oH ini its) its it.used k true none it.rds=true:=λ{k it} h=>by have:=(ue hT3 h).2;rwa [IX] at this
 have befS:∀{k j:Nat},Ri l g k j=true→k<g.length∧g.getD k 0∈((oe l [])[g.getD j 0]?).getD []:=λ{k j} h=>by
  simp only[Ri,Ix,Kg] at h
  exact⟨h.1,by have:=dm.1 h.2;simpa[List.getD] using this⟩
 have lfp:∀{X Y:List bM},X.Perm Y→(Lf X).Perm (Lf Y):=λ{X Y} h=>by
  have:=H3 hLf h []
  simpa using this
 have atEnd:∀(fuel:Nat) (listed:Array Bool) (a:Act) (w:World),Rm listed≤fuel→V6 F n (oH ini its) Lf L0 l D g its E listed a w→(∀i∈g,listed.getD i false=true)→wpAny P .any l.toArray Q fuel listed a w:=by
  intro fuel listed a w hc inv all
  obtain⟨G,bs,ks,hg,hS,hnd,hks,hd,hsz,hA,hB'⟩:=inv.st
  have allL:∀q,q<g.length→O_ g listed q:=λq hq=>⟨g[q],by simp[hq],all _ (IF hq)⟩
  have hkp:ks.Perm ((oH ini its).filter (λt=> !md t.id (oj its))):=by
    refine(Ll (m5 hnd) ((m5 hT1).filter _)).2 λt=>?_
    rw[hks,J4]
    constructor
    · rintro⟨h1,h2,h3⟩
      refine⟨h1,?_⟩
      cases hm:md t.id (oj its) with
      |false=>rfl
      | true =>
        obtain⟨it,hit,hi⟩:=Lr.1 (dm.1 hm)
        obtain⟨q,hq⟩:=Jy.1 hit
        have hql:=(It.1 hq).1
        exact absurd (allL q (by omega)) (h3 q it hq hi)
    · rintro⟨h1,h2⟩
      refine⟨h1,λq hq=>?_,λq it hq hi=>?_⟩
      · rcases IK.1 h1 with h|h
        · obtain⟨x,_,rfl⟩:=Jd.1 h;cases hq
        · obtain⟨k,it,x,h4,h5,rfl⟩:=qy.1 h
          cases hq
          have:=(It.1 h4).1
          exact allL _ (by omega)
      · rw[dm.2 (rm hq hi)] at h2;cases h2
  have hS2:St G w (Lf (RD (oH ini its) (oj its) bs++L0)):=hS.perm (lfp (by rw[C6];exact(hkp.map _).append_right _))
  refine hfin bs G a w hg ⟨hd,hsz,λt s e=>?_⟩ hS2 fuel listed hc ⟨inv.size,inv.closed,λj hj=>⟨λh=>?_,λh=>?_⟩⟩
  · by_cases hw:∃o∈pick l g,o.dst=some t
    · obtain⟨o,ho,hot⟩:=hw
      obtain⟨k,hk⟩:=Jy.1 ho
      have hkl:k<(pick l g).length:=(It.1 hk).1
      have hkg:g[k]? =some g[k]:=by
        have:k<g.length:=by omega
        simp[this]
      have hki:k<its.length:=by omega
      have hik:its[k]? =some its[k]:=by simp[hki]
      rw[zf hB.dsts hk hot (show(its.map (λit=>it.val.sv bs))[k]? =some (its[k].val.sv bs) by simp[hki])] at e
      cases e
      have hl:=oc hB.lt k _ hkg
      exact hA k _ o t _ hkg (by rw[←hl];exact hk) hot hik (all _ (I0 hkg))
    · rw[qa (λo ho e=>hw ⟨o,ho,e⟩)] at e
      refine hB' t s e λi o hi hl _ e'=>hw ⟨o,?_,e'⟩
      obtain⟨k,hk⟩:=Jy.1 hi
      have:=oc hB.lt k i hk
      exact I0 (this.trans hl)
  · rcases inv.ex j hj h with h|h
    · exact LS _ h
    · exact L4 _ h
  · rcases IK.1 h with h|h
    · exact all j h
    · exact inv.dl j h hj
 intro fuel
 induction fuel with
 |zero=>
  intro listed a w hc inv
  refine atEnd 0 listed a w hc inv λi hi=>?_
  cases hl:listed.getD i false with
  |true=>rfl
  | false =>
    exfalso
    have hlt:i<listed.size:=by have:=hB.lt i hi;have:=inv.size;omega
    have hun:listed.getD i true=false:=by simp[hlt] at hl⊢;exact hl
    have:=qt hun;omega
 |succ fuel ih=>
  intro listed a w hc inv
  by_cases hall:∀i∈g,listed.getD i false=true
  · exact atEnd _ listed a w hc inv hall
  · have hex:∃k:Nat,∃i,g[k]? =some i∧listed.getD i false=false:=by
      refine Classical.byContradiction λhno=>hall λi hi=>?_
      obtain⟨k,hk⟩:=Jy.1 hi
      cases hl:listed.getD i false with
      |true=>rfl
      |false=>exact absurd ⟨k,i,hk,hl⟩ hno
    have hready:∃i,i∈Region.ready .any l.toArray listed:=by
      obtain⟨k,i,hk,hl⟩:=hex
      induction k using Nat.strongRecOn generalizing i with
      | _ k ihk =>
        by_cases hbef:∃q,q<k∧∃j,g[q]? =some j∧listed.getD j false=false
        · obtain⟨q,hq,j,hj,hlj⟩:=hbef
          exact ihk q hq j hj hlj
        · obtain⟨o,us,ho,_,_,_,haf,_⟩:=hB.op k i hk
          have hil:i<l.length:=hB.lt i (I0 hk)
          have hlt:i<listed.size:=by have:=inv.size;omega
          refine⟨i,Md.2 ⟨by simp[hlt] at hl⊢;exact hl,o,by simpa using ho,sD λe he=>?_⟩⟩
          obtain⟨h1,h2|h2⟩:=haf e he
          · exact inv.dl e h2 h1
          · obtain⟨q,hq⟩:=Jy.1 h2
            have hqk:q<k:=by have:=(It.1 hq).1;simp at this;omega
            rw[IT hqk] at hq
            cases hle:listed.getD e false with
            |true=>rfl
            |false=>exact absurd ⟨q,hqk,e,hq,hle⟩ hbef
    refine⟨λh0=>(by obtain⟨i,hi⟩:=hready;rw[h0] at hi;cases hi),λi hi=>?_⟩
    obtain⟨hun,o,ho,haft⟩:=Md.1 hi
    have ho':l[i]? =some o:=by simpa using ho
    have hil:i<l.length:=(It.1 ho').1
    have hlist:=tY haft
    have hlt:i<listed.size:=by have:=inv.size;omega
    have hunf:listed.getD i false=false:=by simp[hlt] at hun⊢;exact hun
    have hiD:i∉D:=λh=>by rw[inv.dl i h hil] at hunf;cases hunf
    have hig:i∈g:=by
      rcases hB.others i hil with h|h|h
      · exact absurd h hiD
      · exact h
      · exact absurd (λj hj=>kZ (λj=>listed.getD j false=true) inv.closed ho' hlist j (h j hj)) hall
    obtain⟨k,hk⟩:=Jy.1 hig
    obtain⟨o2,us,ho2,hpk,hus,hsel,haf,hwr⟩:=hB.op k i hk
    rw[ho'] at ho2;cases ho2
    have hkl:k<(pick l g).length:=(It.1 hpk).1
    have hki:k<its.length:=by omega
    have hit:its[k]? =some its[k]:=by simp[hki]
    obtain⟨G,bs,ks,hg,hS,hnd,hks,hdf,hsz,hA,hB'⟩:=inv.st
    have hgk:g.getD k 0=i:=by simp[List.getD,hk]
    have uniq:∀q,g[q]? =some i→q=k:=λq hq=>by
      have e1:=(It.1 hq).2
      have e2:=(It.1 hk).2
      exact(List.getElem_inj hB.nodup).1 (e1.trans e2.symm)
    have hkun:¬O_ g listed k:=λ⟨j,h1,h2⟩=>by rw[hk] at h1;cases h1;rw[hunf] at h2;cases h2
    have bef_lst:∀{q:Nat},Ri l g q k=true→O_ g listed q:=λ{q} h=>by
      obtain⟨h1,h2⟩:=befS h
      rw[hgk] at h2
      exact⟨g.getD q 0,by simp[List.getD,h1],kZ (λj=>listed.getD j false=true) inv.closed ho' hlist _ h2⟩
    -- what hangs on a listed operation's tellings does not hang on this one
    have dep_lst:∀{q j:Nat},Ri l g q j=true→O_ g listed j→O_ g listed q:=λ{q j} h ⟨j1,hj1,hl1⟩=>by
      obtain⟨h1,h2⟩:=befS h
      obtain⟨o3,_,ho3,_⟩:=hB.op j _ hj1
      have hgq:g.getD j 0=j1:=by simp[List.getD,hj1]
      rw[hgq] at h2
      exact⟨g.getD q 0,by simp[List.getD,h1],kZ (λj=>listed.getD j false=true) inv.closed ho3 (inv.closed _ o3 ho3 hl1) _ h2⟩
    have dne:∀d q j o' d',o.dst=some d→g[q]? =some j→l[j]? =some o'→o'.dst=some d'→i≠j→d≠d':=λd q j o' d' hd hq hj hd' hji e=>by
      subst e
      have hpq:=oc hB.lt q j hq
      have:=vY hB.dsts hpk (hpq.trans hj) hd hd'
      subst this
      rw[hk] at hq;cases hq;exact hji rfl
    have hEnv:∀t s,look (jk us (m9 ((pick l g).take k) ((its.take k).map (λit=>it.val.sv bs)) E)) t=some s→∃v,a.tmps[t]? =some v∧s.ok G v:=by
      intro t s e
      rw[tX] at e
      split at e
      · rename_i htu
        have hwt:=hwr t htu
        by_cases hw:∃q∈(pick l g).take k,q.dst=some t
        · obtain⟨o',hq,hqt⟩:=hw
          obtain⟨q,hq'⟩:=Jy.1 hq
          have hqk:q<k:=by have:=(It.1 hq').1;simp at this;omega
          have hpq:(pick l g)[q]? =some o':=by rw[IT hqk] at hq';exact hq'
          have hgq:g[q]? =some g[q]:=by
            have:q<g.length:=by omega
            simp[this]
          have hlq:=oc hB.lt q _ hgq
          have hlo:l[g[q]]? =some o':=by rw[←hlq];exact hpq
          have hqi:q<its.length:=by omega
          have hsq:((its.take k).map (λit=>it.val.sv bs))[q]? =some (its[q].val.sv bs):=by simp[hqi,hqk]
          have hndt:(((pick l g).take k).filterMap (·.dst)).Nodup:=hB.dsts.sublist ((List.take_sublist k _).filterMap _)
          rw[zf hndt hq' hqt hsq] at e
          cases e
          refine hA q _ o' t _ hgq hlo hqt (by simp[hqi]) ?_
          exact kZ (λj=>listed.getD j false=true) inv.closed ho' hlist _ ((hwt q _ o' hgq hlo hqt).1 hqk)
        · rw[qa (λx hx e'=>hw ⟨x,hx,e'⟩)] at e
          refine hB' t s e λj o' hj hlj hlisted hqt=>?_
          obtain⟨q,hq⟩:=Jy.1 hj
          have hpq:=oc hB.lt q j hq
          have hqk:¬q<k:=λh=>hw ⟨o',by
            have:((pick l g).take k)[q]? =some o':=by rw[IT h,hpq];exact hlj
            exact I0 this,hqt⟩
          by_cases hqk2:q=k
          · subst hqk2
            rw[hk] at hq;cases hq
            rw[hunf] at hlisted;cases hlisted
          · have:=kZ (λj=>listed.getD j false=true) inv.closed hlj (inv.closed j o' hlj hlisted) i ((hwt q j o' hq hlj hqt).2 (by omega))
            rw[hunf] at this;cases this
      · cases e
    -- the tokens that it takes
    have hib:=hitB hit
    simp only[US,Ix,JF] at hib
    obtain⟨⟨hib1,hib2⟩,hib3⟩:=hib
    have husedlive:∀x∈its[k].used,∃t,lV (oH ini its) x=some t∧t∈ks∧t.id=x:=λx hx=>by
      have h1:=hib1 x hx
      cases hf:lV (oH ini its) x with
      |none=>rw[hf] at h1;cases h1
      | some t =>
        rw[hf] at h1
        obtain⟨h2,h3⟩:=uf hf
        refine⟨t,rfl,(hks t).2 ⟨h2,λq hq=>?_,λq it hq hi hl=>?_⟩,h3⟩
        · simp only[hq] at h1;exact bef_lst h1
        · rw[h3] at hi
          have:=wc hT2 hq hit hi hx
          subst this
          exact hkun hl
    have hsp:ks.Perm (its[k].used.filterMap (lV (oH ini its))++ks.filter (λt=> !md t.id its[k].used)):=by
      have hidu:(its[k].used.filterMap (lV (oH ini its))).map (·.id)=its[k].used:=by
        have:∀us:List Nat,(∀x∈us,∃t,lV (oH ini its) x=some t∧t∈ks∧t.id=x)→(us.filterMap (lV (oH ini its))).map (·.id)=us:=by
          intro us
          induction us with
          |nil=>intro _;rfl
          | cons x us ih =>
            intro h
            obtain⟨t,h1,_,h3⟩:=h x (by simp)
            rw[List.filterMap_cons,h1]
            simp only[IU,h3,ih λy hy=>h y (by simp[hy])]
        exact this _ husedlive
      have hndu:(its[k].used.filterMap (lV (oH ini its))).Nodup:=m5 (by rw[hidu];exact zk hT2 hit)
      refine(Ll (m5 hnd) (J9.2 ⟨hndu,(m5 hnd).filter _,λx hx y hy e=>?_⟩)).2 λt=>?_
      · subst e
        have h1:x.id∈its[k].used:=by rw[←hidu];exact List.mem_map_of_mem hx
        have:=(J4.1 hy).2
        rw[dm.2 h1] at this;cases this
      · rw[IK,J4,Lb]
        constructor
        · intro h
          cases hm:md t.id its[k].used with
          |false=>exact .inr ⟨h,by simp⟩
          |true=>exact .inl ⟨t.id,dm.1 hm,vw hT1 ((hks t).1 h).1⟩
        · rintro(⟨x,hx,hf⟩|⟨h,_⟩)
          · obtain⟨t',h1,h2,_⟩:=husedlive x hx
            rw[hf] at h1;cases h1;exact h2
          · exact h
    -- what it looks at
    have hread:∃rl:List L_,rl.map (λt=>t.tk.res bs)∈mZ (oH ini its) its[k].rds bs∧∃rest,(ks.filter (λt=> !md t.id its[k].used)).Perm (rl++rest):=by
      rcases hrdB hit with h0|h0
      · exact⟨[],by rw[h0];simp[mZ],_,List.Perm.refl _⟩
      · have key:∀(rs:List Nat) (first:Bool) (prev:Option Nat),wb l g (oH ini its) its its[k].used k first prev rs=true→(first=true→rs≠[])→(first=false→∃c,prev=some c∧O_ g listed c)→
            ∃t∈ks,md t.id its[k].used=false∧[t.tk.res bs]∈mZ (oH ini its) rs bs:=by
          intro rs
          induction rs with
          | nil =>
            intro first prev h h1 h2
            cases first with
            |true=>exact absurd rfl (h1 rfl)
            | false =>
              obtain⟨c,rfl,hc⟩:=h2 rfl
              exact absurd (dep_lst h hc) hkun
          | cons i r ih =>
            intro first prev h h1 h2
            rw[wb] at h
            cases hf:lV (oH ini its) i with
            |none=>rw[hf] at h;cases h
            | some t =>
              rw[hf] at h
              simp only[Ix,JJ] at h
              obtain⟨⟨ha,hb⟩,hc⟩:=h
              obtain⟨f1,f2⟩:=uf hf
              have hin:[t.tk.res bs]∈mZ (oH ini its) (i::r) bs:=by
                cases r with
                |nil=>simp[mZ,hf]
                |cons x xs=>simp[mZ,hf]
              have hprod:∀q,t.prod=some q→O_ g listed q:=λq hq=>by
                cases first with
                |true=>rw[hq] at ha;exact bef_lst ha
                |false=>
                 obtain⟨c,rfl,hcl⟩:=h2 rfl
                 rw[hq] at ha
                 rw[Jz (show Nat.beq q c=true from ha)];exact hcl
              by_cases hlive:∀q it,its[q]? =some it→t.id∈it.used→¬O_ g listed q
              · exact⟨t,(hks t).2 ⟨f1,hprod,hlive⟩,by rw[f2];exact hb,hin⟩
              · obtain⟨q,hq⟩:=Classical.not_forall.1 hlive
                obtain⟨it,hq⟩:=Classical.not_forall.1 hq
                obtain⟨hq1,hq⟩:=Classical.not_imp.1 hq
                obtain⟨hq2,hq⟩:=Classical.not_imp.1 hq
                have hq:=Classical.not_not.1 hq
                cases hcons:zg its 0 i with
                |none=>exact absurd hq2 (by rw[f2];exact zi hcons q it hq1)
                |some c=>
                 obtain⟨q',it',e1,e2,e3⟩:=zj hcons
                 rw[f2] at hq2
                 have e4:=wc hT2 hq1 e2 hq2 e3
                 rw[hcons] at hc
                 obtain⟨t',h5,h6,h7⟩:=ih false (some c) hc (λe=>by cases e) (λ_=>⟨c,rfl,by rw[e1,IX,←e4];exact hq⟩)
                 refine⟨t',h5,h6,?_⟩
                 cases r with
                 |nil=>simp only[mZ,Ji] at h7;cases h7
                 |cons x xs=>
                  show _∈(match lV (oH ini its) i with|some t=>[t.tk.res bs]|none=>[])::mZ (oH ini its) (x::xs) bs
                  exact List.mem_cons_of_mem _ h7
        have hne:its[k].rds≠[]∨its[k].rds=[]:=by cases its[k].rds<;>simp
        rcases hne with hne|hne
        · obtain⟨t,h1,h2,h3⟩:=key _ true none h0 (λ_=>hne) (λe=>by cases e)
          have hm:t∈ks.filter (λt=> !md t.id its[k].used):=J4.2 ⟨h1,by rw[h2];rfl⟩
          obtain⟨A1,A2,e⟩:=List.append_of_mem hm
          exact⟨[t],h3,A1++A2,by rw[e];exact KM⟩
        · exact⟨[],by rw[hne];simp[mZ],_,List.Perm.refl _⟩
    obtain⟨rl,hrl,restk,hrp⟩:=hread
    have hS1:St G w (Q3 (oH ini its) its[k].used bs++(rl.map (λt=>t.tk.res bs)++Lf (restk.map (λt=>t.tk.res bs)++L0))):=by
      refine hS.perm ((lfp (((hsp.map (λt=>t.tk.res bs)).append_right L0))).trans ?_)
      rw[Jn,IR,C7]
      refine(rk hLf _ _).symm.trans (LW _ ?_)
      refine(lfp ((hrp.map (λt=>t.tk.res bs)).append_right L0)).trans ?_
      rw[Jn,IR]
      exact(rk hLf _ _).symm
    have hrun:=hop bs k o us _ hpk hus hit _ hrl G _ hg G a w (NC G) ⟨hdf,hsz,hEnv⟩ hS1
    have hfr:=C9 (Q:=Q) (i:=i) (by simpa using ho') hrun (λd hd=>by rw[hsz];exact hn o (I0 hpk) d hd) hdf
    refine wpOp_mono (λa' w' h=>?_) hfr
    obtain⟨u,v,H,rfl,hgh,hok,hS'⟩:=h
    have lst_set:∀q,O_ g (listed.setIfInBounds i true) q↔O_ g listed q∨q=k:=λq=>by
      constructor
      · rintro⟨j,h1,h2⟩
        by_cases hji:i=j
        · subst hji;exact .inr (uniq q h1)
        · rw[Lp false hji] at h2;exact .inl ⟨j,h1,h2⟩
      · rintro(⟨j,h1,h2⟩|rfl)
        · exact⟨j,h1,KD h2⟩
        · exact⟨i,hk,by simp[hlt]⟩
    have tk_same:∀t∈ks,t.tk.res (R3 bs k v)=t.tk.res bs:=λt ht=>by
      obtain⟨h1,h2,_⟩:=(hks t).1 ht
      refine t.tk.ok _ _ λq hq=>GQ _ _ λe=>?_
      subst e
      rcases IK.1 h1 with h|h
      · obtain⟨x,_,rfl⟩:=Jd.1 h;simp[Ua] at hq
      · obtain⟨j,it,x,h4,h5,rfl⟩:=qy.1 h
        have hj:=h2 (0+j) rfl
        rw[IX] at hj
        have hib:=hitB h4
        simp only[US,Ix,JF,J5] at hib
        rcases hib.1.2 x h5 q hq with hb|hb
        · have:=Jz hb
          subst this;exact hkun hj
        · exact hkun (dep_lst hb hj)
    have sv_same:∀q it,its[q]? =some it→O_ g listed q→it.val.sv (R3 bs k v)=it.val.sv bs:=λq it hq hl=>by
      refine it.val.ok _ _ λz hz=>GQ _ _ λe=>?_
      subst e
      have hib:=hitB hq
      simp only[US,Ix,JF,J5] at hib
      rcases hib.2 z hz with hb|hb
      · have:=Jz hb
        subst this;exact hkun hl
      · exact hkun (dep_lst hb hl)
    have outs_tab:∀x∈its[k].outs,(⟨x.1,some k,x.2⟩:L_)∈oH ini its:=λx hx=>LS _ (qy.2 ⟨k,_,x,hit,hx,by rw[IX]⟩)
    have out_notks:∀x∈its[k].outs,∀t∈ks,t.id≠x.1:=λx hx t ht e=>by
      have h1:=(hks t).1 ht
      have:=H4 hT1 h1.1 (outs_tab x hx) e
      subst this
      exact hkun (h1.2.1 k rfl)
    have hne:its[k].outs.map (·.1)|>.Nodup:=by
      have hs:(its[k].outs.map (λx=>(⟨x.1,some k,x.2⟩:L_))).Sublist (oH ini its):=by
        refine List.Sublist.trans ?_ (JQ _ _)
        have:∀(its:List xG) (j q:Nat) (it:xG),its[q]? =some it→(it.outs.map (λx=>(⟨x.1,some (j+q),x.2⟩:L_))).Sublist (RT its j):=by
          intro its
          induction its with
          |nil=>intro j q it h;simp at h
          | cons it0 r ih =>
            intro j q it h
            cases q with
            |zero=>simp at h;subst h;exact J7 _ _
            |succ q=>rw[show j+(q+1)=j+1+q by omega];exact(ih (j+1) q it (by simpa using h)).trans (JQ _ _)
        have:=this its 0 k _ hit
        rwa [IX] at this
      have:=hT1.sublist (hs.map (·.id))
      simpa[List.map_map,Function.comp_def] using this
    have tm:∀(t:Nat) u',a.tmps[t]? =some u'→(∀d,o.dst=some d→d≠t)→(a.put o.dst u).tmps[t]? =some u':=by
      intro t u' hu hne
      cases hd:o.dst with
      |none=>exact hu
      |some d=>simp only[Act.put];rw[Ju (hne d hd)];exact hu
    refine ih _ _ _ (by have:=qt hun;omega) ⟨by simp[inv.size],λj q hj hlj e he=>?_,λj hj hjl=>?_,λj hj hlj=>?_,H,R3 bs k v,its[k].outs.map (λx=>⟨x.1,some k,x.2⟩)++ks.filter (λt=> !md t.id its[k].used),Nj hg hgh,?_,?_,λt=>?_,?_,?_,λq j o' d' it hq hj hd' hiq hlj=>?_,λt s' hl hno=>?_⟩
    · by_cases hji:i=j
      · subst hji
        rw[ho'] at hj;cases hj
        exact KD (hlist e he)
      · rw[Lp false hji] at hlj
        exact KD (inv.closed j q hj hlj e he)
    · exact KD (inv.dl j hj hjl)
    · by_cases hji:i=j
      · subst hji;exact .inr hig
      · rw[Lp false hji] at hlj;exact inv.ex j hj hlj
    · have e1:(ks.filter (λt=> !md t.id its[k].used)).map (λt=>t.tk.res (R3 bs k v))=(ks.filter (λt=> !md t.id its[k].used)).map (λt=>t.tk.res bs):=JH λt ht=>tk_same t (J4.1 ht).1
      rw[Jn,e1,List.map_map,IR]
      refine hS'.perm ?_
      refine(LW _ ?_).trans (rk hLf _ _)
      refine(rk hLf _ _).trans (lfp ?_)
      rw[←IR,←Jn]
      exact((hrp.map _).append_right L0).symm
    · rw[Jn,List.map_map]
      refine J9.2 ⟨by simpa[Function.comp_def] using hne,?_,λx hx y hy e=>?_⟩
      · exact hnd.sublist (Ma.map _)
      · subst e
        simp only[Jd,Function.comp_def] at hx
        obtain⟨z,hz,rfl⟩:=hx
        obtain⟨t,ht,e⟩:=Jd.1 hy
        exact out_notks z hz t (J4.1 ht).1 e
    · rw[IK,J4,Jd]
      constructor
      · rintro(⟨x,hx,rfl⟩|⟨h1,h2⟩)
        · refine⟨outs_tab x hx,λq hq=>?_,λq it hq hi hl=>?_⟩
          · cases hq;exact(lst_set k).2 (.inr rfl)
          · -- a token is taken only behind what gives it
            have hib:=hitB hq
            simp only[US,Ix,JF] at hib
            have h5:=hib.1.1 _ hi
            rw[vw hT1 (outs_tab x hx)] at h5
            simp only at h5
            rcases(lst_set q).1 hl with h|rfl
            · exact hkun (dep_lst h5 h)
            · obtain⟨h6,h7⟩:=befS h5
              rw[hgk] at h7
              have:=kZ (λj=>listed.getD j false=true) inv.closed ho' hlist _ h7
              rw[hunf] at this;cases this
        · obtain⟨h3,h4,h5⟩:=(hks t).1 h1
          refine⟨h3,λq hq=>(lst_set q).2 (.inl (h4 q hq)),λq it hq hi hl=>?_⟩
          rcases(lst_set q).1 hl with h|rfl
          · exact h5 q it hq hi h
          · rw[hit] at hq;cases hq
            rw[dm.2 hi] at h2;cases h2
      · rintro⟨h1,h2,h3⟩
        by_cases hp:t.prod=some k
        · left
          rcases IK.1 h1 with h|h
          · obtain⟨x,_,rfl⟩:=Jd.1 h;cases hp
          · obtain⟨j,it,x,h4,h5,rfl⟩:=qy.1 h
            simp only[IX,Option.some.injEq] at hp
            subst hp
            rw[hit] at h4;cases h4
            exact⟨x,h5,by rw[IX]⟩
        · refine .inr ⟨(hks t).2 ⟨h1,λq hq=>?_,λq it hq hi hl=>h3 q it hq hi ((lst_set q).2 (.inl hl))⟩,?_⟩
          · rcases(lst_set q).1 (h2 q hq) with h|rfl
            · exact h
            · exact absurd hq hp
          · cases hm:md t.id its[k].used with
            |false=>rfl
            |true=>exact absurd ((lst_set k).2 (.inr rfl)) (h3 k _ hit (dm.1 hm))
    · cases o.dst<;>exact hdf
    · cases o.dst with
      |none=>exact hsz
      |some d=>simp[Act.put,hsz]
    · by_cases hji:i=j
      · subst hji
        rw[ho'] at hj;cases hj
        have:=uniq q hq
        subst this
        rw[hit] at hiq;cases hiq
        refine⟨u,?_,hok d' hd'⟩
        rw[hd']
        simp only[Act.put];rw[I6 (by rw[hsz];exact hn o (I0 hpk) d' hd')]
      · rw[Lp false hji] at hlj
        obtain⟨u',hu,ho3⟩:=hA q j o' d' it hq hj hd' hiq hlj
        rw[sv_same q it hiq ⟨j,hq,hlj⟩]
        exact⟨u',tm d' u' hu λd hd=>dne d q j o' d' hd hq hj hd' hji,Nf hgh ho3⟩
    · obtain⟨u',hu,ho3⟩:=hB' t s' hl (λj o' hj hlj hlisted=>hno j o' hj hlj (KD hlisted))
      refine⟨u',tm t u' hu λd hd e=>?_,Nf hgh ho3⟩
      subst e
      exact hno i o hig ho' (by simp[hlt]) hd
theorem MC {l:List Oper} (g:List Nat) (p:List (List Nat)) (its:List xG) (b:List (Nat×bM)) (Lf:List bM→List bM) (A:∀r T,(r::Lf T).Perm (Lf (r::T))) (hL:Lf (b.map (·.2)++L)=L0) (hB:xh l D g p=true) (hT:Ta l g b its=true) (hn:(pick l g).all (λo=>match o.dst with|some d=>Nat.blt d n|none=>true)=true) (h:∀F,F0≤F→∀bs,rD P n (oH b its) Lf l.toArray F bs (λE'=>bl F n E' (Lf (RD (oH b its) (oj its) bs++L)) (pZ P Q l (g++D))) 0 its p (pick l g) E):bl F0 n E L0 (pZ P Q l D):=λF a w h0 hE hS y f hc m=>by subst hL;have key:=λbs=>C8 (h F h0 bs);have hG:=BC hB;(have c:∀q,¬O_ g f q:=λq ⟨i,h1,h2⟩=>by have u:=I0 h1;exact absurd ((m.ex i (hG.lt i u)).1 h2) (hG.apart i u));have v:=hT;simp only[Ta,Ix] at v;have z:=me v.1.1;refine GR A hG (key λ_=>undef).1 hT (λo ho d hd=>?_) (λbs k o us it h1 h2 h3 R hR G T hg=>by have:=(key bs).2.2 k o us it h1 h2 h3 R hR G T hg;rwa [IX] at this) (λbs G a w hg B C=>(key bs).2.1 G a w hg B C) y f a w hc ⟨m.size,m.closed,λj hj H=>(m.ex j H).2 hj,λj hj hl=> .inl ((m.ex j hj).1 hl),F,λ_=>undef,b.map (λx=>⟨x.1,none,Ua x.2⟩),NC F,?_,?_,λt=>?_,hE.defers,hE.size,λk i o d it hk hi _ _ hl=>absurd ⟨i,hk,hl⟩ (c k),λt s hl _=>hE.at_ t s hl⟩;have:=JF.1 hn o ho;rw[hd] at this;simpa[Kg] using this;(have e:(b.map (λx=>(⟨x.1,none,Ua x.2⟩:L_))).map (λt=>t.tk.res (λ_=>undef))=b.map (·.2):=by rw[List.map_map];rfl);rw[e];exact hS;exact z.sublist ((J7 _ _).map _);constructor;intro ht;refine⟨L4 _ ht,λq hq=>?_,λq it _ _=>c q⟩;obtain⟨x,_,rfl⟩:=Jd.1 ht;cases hq;rintro⟨h1,h2,_⟩;rcases IK.1 h1 with h|h;exact h;obtain⟨j,it,x,_,_,rfl⟩:=qy.1 h;exact absurd (h2 _ rfl) (c _)
theorem Tq.st {v:Sk} (s:SV) (X:List bM) (hX:Q3 tab u bs=X) (hs:v.sv bs=s) (h:∀G T,F0≤G→bl G n (jk us E) (X++Lf T) (wpList P a (Exit.then (qz G n (Lf T) j bs ⟨v,u,os,[]⟩ (some d)) QF) [⟨some d,op,ty,pos,aft,g⟩])) (k:rD P n tab Lf a F0 bs K (j+1) its p l ((d,s)::E)):rD P n tab Lf a F0 bs K j (⟨v,u,os,[]⟩::its) (us::p) (⟨some d,op,ty,pos,aft,g⟩::l) E:=by subst hX;subst hs;exact⟨λR hR=>by simp only[mZ,Ji] at hR;subst hR;exact h,k⟩
def MQ:=@Tq.st
theorem NG (X:List bM) (hX:Q3 tab u bs=X) (h:∀G T,F0≤G→bl G n (jk us E) (X++Lf T) (wpList P a (Exit.then (qz G n (Lf T) j bs ⟨v,u,os,[]⟩ none) QF) [⟨none,op,ty,pos,aft,g⟩])) (k:rD P n tab Lf a F0 bs K (j+1) its p l E):rD P n tab Lf a F0 bs K j (⟨v,u,os,[]⟩::its) (us::p) (⟨none,op,ty,pos,aft,g⟩::l) E:=by subst hX;exact⟨λR hR=>by simp only[mZ,Ji] at hR;subst hR;exact h,k⟩
theorem Tq.v (h:∀G T,F0≤G→bl G n (jk us E) (Lf T) (wpList P a (Exit.then (qz G n (Lf T) j bs ⟨c8 s,[],[],[]⟩ (some d)) QF) [⟨some d,op,ty,pos,aft,g⟩])) (k:rD P n tab Lf a F0 bs K (j+1) its p l ((d,s)::E)):rD P n tab Lf a F0 bs K j (⟨c8 s,[],[],[]⟩::its) (us::p) (⟨some d,op,ty,pos,aft,g⟩::l) E:=⟨λR hR=>by simp only[mZ,Ji] at hR;subst hR;exact h,k⟩
def Mx:=@Tq.v
theorem NP {v:Sk} (s:SV) (R:List bM) (hR:mZ tab [i] bs=[R]) (hs:v.sv bs=s) (h:∀G T,F0≤G→bl G n (jk us E) (R++Lf T) (wpList P a (Exit.then (qz G n (R++Lf T) j bs ⟨v,[],[],[i]⟩ (some d)) QF) [⟨some d,op,ty,pos,aft,g⟩])) (k:rD P n tab Lf a F0 bs K (j+1) its p l ((d,s)::E)):rD P n tab Lf a F0 bs K j (⟨v,[],[],[i]⟩::its) (us::p) (⟨some d,op,ty,pos,aft,g⟩::l) E:=by subst hs;exact⟨λR' b=>by simp only[hR,Ji] at b;subst b;exact h,k⟩
theorem PI {v:Sk} (s:SV) (R R2:List bM) (hR:mZ tab [i,i2] bs=[R,R2]) (hs:v.sv bs=s) (h:∀G T,F0≤G→bl G n (jk us E) (R++Lf T) (wpList P a (Exit.then (qz G n (R++Lf T) j bs ⟨v,[],[],[i,i2]⟩ (some d)) QF) [⟨some d,op,ty,pos,aft,g⟩])) (h2:∀G T,F0≤G→bl G n (jk us E) (R2++Lf T) (wpList P a (Exit.then (qz G n (R2++Lf T) j bs ⟨v,[],[],[i,i2]⟩ (some d)) QF) [⟨some d,op,ty,pos,aft,g⟩])) (k:rD P n tab Lf a F0 bs K (j+1) its p l ((d,s)::E)):rD P n tab Lf a F0 bs K j (⟨v,[],[],[i,i2]⟩::its) (us::p) (⟨some d,op,ty,pos,aft,g⟩::l) E:=by subst hs;exact⟨λR' b=>by simp only[hR,I9,LX,or_false] at b;rcases b with rfl|rfl;exact h;exact h2,k⟩
theorem Tq.nil (h:K E):rD P n tab Lf a F0 bs K j [] [] [] E:=h
def MS:=@Tq.nil
theorem Mj {it:xG} (v:Value) (hd:look E d=some (it.val.sv (R3 bs k v))) (hL:L'=it.outs.map (λx=>x.2.res (R3 bs k v))++L):bl F0 n E L' (wpList P b (Exit.then (qz F0 n L k bs it (some d)) Q') []):=by subst hL;exact λF a w h0 hE hS=>⟨F,v,h0,hE.at_ d _ hd,hS,hE.defers⟩
theorem Nv {it:xG} (v:Value) (hL:L'=it.outs.map (λx=>x.2.res (R3 bs k v))++L):bl F0 n E L' (wpList P b (Exit.then (qz F0 n L k bs it none) Q') []):=by subst hL;exact λF a w h0 hE hS=>⟨F,v,h0,trivial,hS,hE.defers⟩
end
end Go.Sim
namespace Go.Sim
open Go
section
variable {P:Program} {ops:Array Oper} {Q:Exit→Act→World→Prop} {rest:List Oper} {F F0:Fz} {n:Nat} {E:List (Nat×SV)} {L:List bM} {C:World→Prop} {Qa:Act→Prop}
variable {d:Nat} {op:Op} {ty:TypeId} {pos:String} {aft:Array Edge} {s:SV} {X:Act→World→Prop}
theorem mv (h:ev E x=some s) (hd:Nat.blt d n=true) (k:bl F0 n ((d,s)::E) L (wpList P b Q a)):bl F0 n E L (wpList P b Q (⟨some d,.move x,ty,pos,aft,none⟩::a)):=MZ (gT.move h) hd k
theorem ag (h:ev E x=some s) (hd:Nat.blt d n=true) (k:bl F0 n ((d,s)::E) L (wpList P b Q a)):bl F0 n E L (wpList P b Q (⟨some d,.assign x,ty,pos,aft,none⟩::a)):=MZ (O6 h) hd k
theorem gH (h:ev E x=some s) (hd:Nat.blt d n=true) (k:bi F n ((d,s)::E) (wpQuiet P b (Cl F L) Qa a)):bi F n E (wpQuiet P b (Cl F L) Qa (⟨some d,.move x,ty,pos,aft,none⟩::a)):=O8 (gT.move h) hd k
theorem Sh (h:ev E x=some s) (hd:Nat.blt d n=true) (k:bi F n ((d,s)::E) (wpQuiet P b (Cl F L) Qa a)):bi F n E (wpQuiet P b (Cl F L) Qa (⟨some d,.assign x,ty,pos,aft,none⟩::a)):=O8 (O6 h) hd k
theorem bn {b:BinOp} {k:IntKind} {x y:Int} {X Y:Operand} {t u:TypeId} {v:Value} (hX:ev E X=some (.raw (.int k x))) (hY:ev E Y=some (.raw (.int k y))) (hv:QU b k x y=some v) (hd:Nat.blt d n=true) (kk:bl F0 n ((d,.raw v)::E) L (wpList P c Q a)):bl F0 n E L (wpList P c Q (⟨some d,.binOp b t X Y u,ty,pos,aft,none⟩::a)):=MZ (OG hX hY hv) hd kk
theorem vC {b:BinOp} {k:IntKind} {x y:Int} {X Y:Operand} {t u:TypeId} {v:Value} (hX:ev E X=some (.raw (.int k x))) (hY:ev E Y=some (.raw (.int k y))) (hv:QU b k x y=some v) (hd:Nat.blt d n=true) (kk:bi F n ((d,.raw v)::E) (wpQuiet P c (Cl F L) Qa a)):bi F n E (wpQuiet P c (Cl F L) Qa (⟨some d,.binOp b t X Y u,ty,pos,aft,none⟩::a)):=O8 (OG hX hY hv) hd kk
theorem sr {x:Code} {id:Nat} {l:List Oper} (k:bl F0 n E L (wpList P l.toArray (Exit.then (x.wp P Q) Q) l)):bl F0 n E L ((Code.seq (Code.region id l.toArray false) x).wp P Q):=bl.seq (bl.region k)
theorem nt (k:bl F0 n E L K):bl F0 n E L (wpList P a (Exit.then K Q) []):=bl.nil (Oa k)
theorem ns {x:Code} {id:Nat} {l:List Oper} (k:bl F0 n E L (wpList P l.toArray (Exit.then (x.wp P Q) Q) l)):bl F0 n E L (wpList P a (Exit.then ((Code.seq (Code.region id l.toArray false) x).wp P Q) Q) []):=nt (sr k)
theorem ct (k:bl F0 n E L K):bl F0 n E L (Code.skip.wp P (Exit.then K Q)):=NI (Oa k)
theorem rt (k:bl F0 n E L (Q .ret)):bl F0 n E L (Code.ret.wp P (Exit.then K Q)):=N7 (OQ k)
theorem SM (hc:c=true) (h:ev E x=some (.raw (.bool c))) (h1:ev E y=some s):gT P n E L ⟨some d,.pick x y z,ty,pos,aft,none⟩ s:=gT.pick h (λ_=>h1) (λe=>absurd (e.symm.trans hc) (by decide))
theorem SP (hc:c=false) (h:ev E x=some (.raw (.bool c))) (h1:ev E z=some s):gT P n E L ⟨some d,.pick x y z,ty,pos,aft,none⟩ s:=gT.pick h (λe=>absurd (e.symm.trans hc) (by decide)) (λ_=>h1)
theorem gB (h:some a=some b):SV.raw (.bool a)=SV.raw (.bool b):=congrArg (λb=>SV.raw (.bool b)) (Option.some.inj h)
theorem bx (h:some a=some b):a=b:=Option.some.inj h
end
theorem s1 (h0:look E k0=some u0):∀t v,look [(k0,u0)] t=some v→look E t=some v:=aP h0 (lz E)
theorem s2 (h0:look E k0=some u0) (h1:look E k1=some u1):∀t v,look [(k0,u0),(k1,u1)] t=some v→look E t=some v:=aP h0 (aP h1 (lz E))
theorem s3 (h0:look E k0=some u0) (h1:look E k1=some u1) (h2:look E k2=some u2):∀t v,look [(k0,u0),(k1,u1),(k2,u2)] t=some v→look E t=some v:=aP h0 (aP h1 (aP h2 (lz E)))
theorem s4 (h0:look E k0=some u0) (h1:look E k1=some u1) (h2:look E k2=some u2) (h3:look E k3=some u3):∀t v,look [(k0,u0),(k1,u1),(k2,u2),(k3,u3)] t=some v→look E t=some v:=aP h0 (aP h1 (aP h2 (aP h3 (lz E))))
theorem s5 (h0:look E k0=some u0) (h1:look E k1=some u1) (h2:look E k2=some u2) (h3:look E k3=some u3) (h4:look E k4=some u4):∀t v,look [(k0,u0),(k1,u1),(k2,u2),(k3,u3),(k4,u4)] t=some v→look E t=some v:=aP h0 (aP h1 (aP h2 (aP h3 (aP h4 (lz E)))))
theorem s6 (h0:look E k0=some u0) (h1:look E k1=some u1) (h2:look E k2=some u2) (h3:look E k3=some u3) (h4:look E k4=some u4) (h5:look E k5=some u5):∀t v,look [(k0,u0),(k1,u1),(k2,u2),(k3,u3),(k4,u4),(k5,u5)] t=some v→look E t=some v:=aP h0 (aP h1 (aP h2 (aP h3 (aP h4 (aP h5 (lz E))))))
theorem s7 (h0:look E k0=some u0) (h1:look E k1=some u1) (h2:look E k2=some u2) (h3:look E k3=some u3) (h4:look E k4=some u4) (h5:look E k5=some u5) (h6:look E k6=some u6):∀t v,look [(k0,u0),(k1,u1),(k2,u2),(k3,u3),(k4,u4),(k5,u5),(k6,u6)] t=some v→look E t=some v:=aP h0 (aP h1 (aP h2 (aP h3 (aP h4 (aP h5 (aP h6 (lz E)))))))
theorem s8 (h0:look E k0=some u0) (h1:look E k1=some u1) (h2:look E k2=some u2) (h3:look E k3=some u3) (h4:look E k4=some u4) (h5:look E k5=some u5) (h6:look E k6=some u6) (h7:look E k7=some u7):∀t v,look [(k0,u0),(k1,u1),(k2,u2),(k3,u3),(k4,u4),(k5,u5),(k6,u6),(k7,u7)] t=some v→look E t=some v:=aP h0 (aP h1 (aP h2 (aP h3 (aP h4 (aP h5 (aP h6 (aP h7 (lz E))))))))
theorem ZW (h0:look E k0=some u0) (h1:look E k1=some u1) (h2:look E k2=some u2) (h3:look E k3=some u3) (h4:look E k4=some u4) (h5:look E k5=some u5) (h6:look E k6=some u6) (h7:look E k7=some u7) (h8:look E k8=some u8) (h9:look E k9=some u9):∀t v,look [(k0,u0),(k1,u1),(k2,u2),(k3,u3),(k4,u4),(k5,u5),(k6,u6),(k7,u7),(k8,u8),(k9,u9)] t=some v→look E t=some v:=aP h0 (aP h1 (aP h2 (aP h3 (aP h4 (aP h5 (aP h6 (aP h7 (aP h8 (aP h9 (lz E))))))))))
theorem ZN (h0:look E k0=some u0) (h1:look E k1=some u1) (h2:look E k2=some u2) (h3:look E k3=some u3) (h4:look E k4=some u4) (h5:look E k5=some u5) (h6:look E k6=some u6) (h7:look E k7=some u7) (h8:look E k8=some u8) (h9:look E k9=some u9) (a:look E b=some c) (d:look E e=some f) (g:look E h=some i):∀t v,look [(k0,u0),(k1,u1),(k2,u2),(k3,u3),(k4,u4),(k5,u5),(k6,u6),(k7,u7),(k8,u8),(k9,u9),(b,c),(e,f),(h,i)] t=some v→look E t=some v:=aP h0 (aP h1 (aP h2 (aP h3 (aP h4 (aP h5 (aP h6 (aP h7 (aP h8 (aP h9 (aP a (aP d (aP g (lz E)))))))))))))
theorem Y_ (h0:look E k0=some u0) (h1:look E k1=some u1) (h2:look E k2=some u2) (h3:look E k3=some u3) (h4:look E k4=some u4) (h5:look E k5=some u5) (h6:look E k6=some u6) (h7:look E k7=some u7) (h8:look E k8=some u8) (h9:look E k9=some u9) (a:look E b=some c) (d:look E e=some f) (g:look E h=some i) (j:look E k=some l) (m:look E n=some o) (p:look E q=some r):∀t v,look [(k0,u0),(k1,u1),(k2,u2),(k3,u3),(k4,u4),(k5,u5),(k6,u6),(k7,u7),(k8,u8),(k9,u9),(b,c),(e,f),(h,i),(k,l),(n,o),(q,r)] t=some v→look E t=some v:=aP h0 (aP h1 (aP h2 (aP h3 (aP h4 (aP h5 (aP h6 (aP h7 (aP h8 (aP h9 (aP a (aP d (aP g (aP j (aP m (aP p (lz E))))))))))))))))
theorem Zt (h0:look E k0=some u0) (h1:look E k1=some u1) (h2:look E k2=some u2) (h3:look E k3=some u3) (h4:look E k4=some u4) (h5:look E k5=some u5) (h6:look E k6=some u6) (h7:look E k7=some u7) (h8:look E k8=some u8) (h9:look E k9=some u9) (a:look E b=some c) (d:look E e=some f) (g:look E h=some i) (j:look E k=some l) (m:look E n=some o) (p:look E q=some r) (s:look E u=some w) (x:look E y=some z) (A:look E B=some C) (D:look E F=some G) (H:look E I=some K) (L:look E M=some N) (O:look E P=some Q) (R:look E S=some T):∀t v,look [(k0,u0),(k1,u1),(k2,u2),(k3,u3),(k4,u4),(k5,u5),(k6,u6),(k7,u7),(k8,u8),(k9,u9),(b,c),(e,f),(h,i),(k,l),(n,o),(q,r),(u,w),(y,z),(B,C),(F,G),(I,K),(M,N),(P,Q),(S,T)] t=some v→look E t=some v:=aP h0 (aP h1 (aP h2 (aP h3 (aP h4 (aP h5 (aP h6 (aP h7 (aP h8 (aP h9 (aP a (aP d (aP g (aP j (aP m (aP p (aP s (aP x (aP A (aP D (aP H (aP L (aP O (aP R (lz E))))))))))))))))))))))))
abbrev sq:=@bl.seq
abbrev rg:=@bl.region
abbrev nl:=@bl.nil
abbrev tn:=@Oa
abbrev te:=@Pw
abbrev tr:=@OQ
abbrev rc:=@N7
abbrev bk:=@bl.block
abbrev bh:=@Px
abbrev bN:=@Ob
abbrev bm:=@Py
abbrev xt:=@bl.exit
abbrev cs:=@NI
abbrev dr:=@N1
abbrev gc:=@Pk
abbrev gq:=@PK
abbrev sk:=@Pm
abbrev mG:=@PL
abbrev oq:=@O8
abbrev ov:=@MZ
abbrev Re:=@PF
abbrev rf:=@O3
abbrev T5:=@PJ
abbrev dD:=@Pj
abbrev dw:=@OZ
abbrev PZ:=@bi.nil
end Go.Sim
namespace Go.Sim
open Go
def dh {α β:Type} [BEq α] (x:α) (ps:List (α×β)) (z:β):β:=(nJ x ps).getD z
def ZV {α:Type} (P:Program) (T:TypeId) (K:Kd α) (z:α):Prop:=∃v,(P.info? T).bind (·.zero)=some v∧∀F,K.val F v z
section
variable {P:Program} {ops:Array Oper} {Q:Exit→Act→World→Prop} {rest:List Oper} {F0:Fz} {n:Nat} {E:List (Nat×SV)} {L:List bM}
variable {d:Nat} {op:Op} {ty:TypeId} {pos:String} {aft:Array Edge} {s:SV}
theorem wd [BEq α] {K:Kd α} {V:Kd β} (hk:QV P kt K) (hT:P.underlying T=some (.map kt et)) (hz:ZV P et V z) {es:Array MapEntry} (hr:B_ K V F es.toList ps) (hx:K.val F key x):∃v,V.val F v (dh x ps z)∧∀w (m:Option Nat),(match m with|none=>es=#[]|some r=>∃c,w.heap[r]? =some (.map es c))→(Instr.lookup T (.map m) key false).run P w= .ok v w∧(Instr.lookup T (.map m) key true).run P w= .ok (.tuple #[v,.bool (nJ x ps).isSome]) w:=by obtain⟨zv,hz1,hz2⟩:=hz;rcases hfa:nE x ps 0 with _|j;refine⟨zv,?_,λw m hm=>?_⟩;rcases fW hk hx (i:=0) hr (w:=default) with⟨a1,a2,a3⟩|⟨j,e,a1,_⟩;simp only[dh,a2,KN];exact hz2 F;rw[hfa] at a1;cases a1;rcases fW hk hx (i:=0) hr (w:=w) with⟨a1,a2,a3⟩|⟨j,e,a1,_⟩;have hf:=hk.find a3;have hc:=hk.chk (b:=es.isEmpty) hx (w:=w);have hzv:=mX hz1 w;(cases m with|none=>simp only at hm;subst hm;simp at hf hc;simp[Instr.lookup,IE hT,hc,hf,hzv,a2]|some r=>obtain⟨c,hb⟩:=hm;simp[Instr.lookup,IE hT,Jw (P:=P) hb,hc,hf,hzv,a2]);rw[hfa] at a1;cases a1;rcases fW hk hx (i:=0) hr (w:=default) with⟨a1,_⟩|⟨j',e,a1,a2,a3,⟨y,a4,a5⟩,_⟩;rw[hfa] at a1;cases a1;refine⟨e.val,by simp only[dh,a4,Jb];exact a5,λw m hm=>?_⟩;rcases fW hk hx (i:=0) hr (w:=w) with⟨b1,_⟩|⟨j2,e2,b1,b2,b3,_⟩;rw[hfa] at b1;cases b1;rw[a1] at b1;(have:j'=j2:=by simpa using b1);subst this;rw[a2] at b2;cases b2;have hf:=hk.find b3;have hc:=hk.chk (b:=es.isEmpty) hx (w:=w);cases m with|none=>simp only at hm;subst hm;simp at a2|some r=>obtain⟨c,hb⟩:=hm;simp[Instr.lookup,IE hT,Jw (P:=P) hb,hc,hf,a4]
theorem OL {α:Type} [BEq α] {K:Kd α} {q:IntKind} {T kt et:TypeId} {b:Nat} {ps:List (α×Int)} {M X:Operand} {x:α} {z:Int} {s1:SV} (hk:QV P kt K) (hT:P.underlying T=some (.map kt et)) (hz:ZV P et (bD q) z) (hM:ev E M=some (.raw (.map (some b)))) (hX:ev E X=some s1) (h1:il s1 K x):gT P n E (.mp K (bD q) b ps::L) ⟨some d,.lookup T M X false,ty,pos,aft,none⟩ (.raw (.int q (dh x ps z))):=NM λF a hE w G hg hS=>by obtain⟨h,⟨es,clock,⟨hrd,hst⟩,rfl⟩,hon⟩:=hS.head;have hb:w.heap[b]? =some (.map es clock):=hon b _ (Mo _ _);obtain⟨v,hv,hr⟩:=wd hk hT hz hrd (h1 G _ ((hE.mono hg).eval hX));obtain rfl:=ra.1 hv;simp only[execOp,hE.raw hM,(hr w (some b) ⟨clock,hb⟩).1,IC,Iv,IJ]
theorem Ny {T : TypeId} {X I : Operand} {x : List Int} {c : Int} {q : IntKind} {i : Int} {s1 : SV} (hx : idx x i = some c) (hT : P.underlying T = some .string) (hX : ev E X = some s1) (h1 : il s1 xJ x) (hI : ev E I = some (.raw (.int q i))) : gT P n E L ⟨some d, .index T X I, ty, pos, aft, none⟩ (.raw (.int .u8 c)) := MR λF a hE w => by obtain ⟨st, hv, rfl⟩ := sW (h1 F _ (hE.eval hX));obtain ⟨h0, h2, h3⟩ := kY hx;(have hl : i.toNat < st.size := by (have : i < (st.data.toList.length : Int) := by simpa using h2);(have e : st.size = st.data.toList.length := by rw [JP]; rfl);omega);have hi : 0 ≤ i ∧ i < st.size := ⟨h0, by omega⟩;(have hc : c = ((st[i.toNat]'hl).toNat : Int) := by (have h4 : (st.data.toList.map λb => (b.toNat : Int))[i.toNat]? = some ((st[i.toNat]'hl).toNat : Int) := by simp only [Kt, JO];(have : st.data[i.toNat]? = some (st[i.toNat]'hl) := by rw [JG (show i.toNat < st.data.size from hl)]; rfl);rw [this]; rfl);rw [h3] at h4; exact Option.some.inj h4);simp only [execOp, hv, hE.raw hI, IC, Go.run_index_string w T st q i hT, hi, and_self, dif_pos, Iv, IJ];rw [hc]
theorem PH {K:Kd α} {A:Option Operand} {xs:List α} {l h m:Int} (hs:sub xs l h=some ys) (hm:decide (h≤m∧m≤(xs.length:Int))=true) (hT:P.underlying T=some (.slice e)) (hz:(P.info? e).map (·.size)=some K.n) (hX:ev E X=some s) (hr:il s (cc K) xs) (hA:TN E A 0=some l) (hB:ev E B=some (.raw (.int k h))) (hC:ev E C=some (.raw (.int k' m))):gT P n E L ⟨some d,.slice T X A (some B) (some C),ty,pos,aft,none⟩ (.val (cc K) ys):=MU λF a hE=>by obtain⟨h0,h1,h2,rfl⟩:=qu hs;obtain⟨m1,m2⟩:=Ir hm;obtain⟨cs,⟨ad,cap,rfl,hcap,r⟩,he⟩:=hr F _ (hE.eval hX);have he:a.eval X= .slice ad xs.length cap:=he;(have hbnd:∀w,(Instr.sliceBounds true xs.length cap (A.map a.eval) (some (.int k h)) (some (.int k' m))).run P w= .ok (l.toNat,h.toNat,m.toNat) w:=λw=>by(have e1:(m.toNat:Int)=m:=by omega);(have e2:(h.toNat:Int)=h:=by omega);rcases ze hE hA with⟨rfl,rfl⟩|⟨q,hq⟩;simp[Instr.sliceBounds,lA (show 0≤m by omega) (show m≤(cap:Int) by omega),lA (show 0≤h by omega) (show h≤((m.toNat:Nat):Int) by omega)];simp[Instr.sliceBounds,hq,lA (show 0≤m by omega) (show m≤(cap:Int) by omega),lA (show 0≤h by omega) (show h≤((m.toNat:Nat):Int) by omega),lA h0 (show l≤((h.toNat:Nat):Int) by omega)]);(have hl:((xs.take h.toNat).drop l.toNat).length=h.toNat - l.toNat:=by simp;omega);refine⟨.slice (if m.toNat=l.toNat then ad else ad.map (·.add (l.toNat*K.n))) (h.toNat - l.toNat) (m.toNat - l.toNat),?_,λw=>?_⟩;simp only[SV.ok];refine⟨[_],⟨_,m.toNat - l.toNat,by rw[hl],by rw[hl];omega,?_⟩,rfl⟩;rcases r with r|⟨p,c,e',fr,rfl,hp,hb,hle,hrd⟩;exact .inl (by rw[hl];omega);by_cases hc:m.toNat=l.toNat;exact .inl (by rw[hl];omega);refine .inr ⟨p.add (l.toNat*K.n),c,e',fr,by simp[hc],?_,?_,?_,?_⟩;obtain⟨b,o,sp⟩:=p;simp only at hp;subst hp;rw[Je];obtain⟨b,o,sp⟩:=p;simp only at hp;subst hp;rw[Je];exact hb;obtain⟨b,o,sp⟩:=p;simp only at hp;subst hp;rw[Je,hl];(have:l.toNat*K.n+(h.toNat - l.toNat)*K.n≤xs.length*K.n:=by rw[←Kc];exact Iz _ (by omega));simp only at hle⊢;omega;obtain⟨b,o,sp⟩:=p;simp only at hp;subst hp;rw[Je,hl];have h3:=(hrd.take h.toNat).drop l.toNat;simp only at h3⊢;rw[KE,Jq (Iz _ (by omega)),KO,Js] at h3;rw[Nat.sub_mul];exact h3;simp only[execOp,Instr.sliceAt,he,Instr.slice,IE hT,Kx,hE.raw hB,hE.raw hC,IC,Iv,hbnd w,dK hz,IJ]
theorem Pb {K:Kd α} {xs:List α} {l h:Int} (hs:sub xs l h=some ys) (hT:P.underlying T=some (.array m e)) (hz:(P.info? e).map (·.size)=some K.n) (hX:ev E X=some (.ptr (bR m K) xs)) (hA:TN E A 0=some l) (hB:TN E B m=some h):gT P n E L ⟨some d,.slice T X A B none,ty,pos,aft,none⟩ (.val (cc K) ys):=MU λF a hE=>by obtain⟨h0,h1,h2,rfl⟩:=qu hs;have:=hE.eval hX;simp only[SV.ok] at this;obtain⟨p,he,hp⟩:=this;obtain⟨c,e',fr,f,hb,j,hm,hrd⟩:=hp.out;have g:∀w,_:=λw=>ua (P:=P) hE (isS:=false) (len:=m) (cap:=m) hA hB h0 h1 (by omega) w;(have hl:((xs.take h.toNat).drop l.toNat).length=h.toNat - l.toNat:=by simp;omega);refine⟨.slice (some (if m=l.toNat then p else p.add (l.toNat*K.n))) (h.toNat - l.toNat) (m - l.toNat),?_,λw=>?_⟩;simp only[SV.ok];refine⟨[_],⟨_,m - l.toNat,by rw[hl],by rw[hl];omega,?_⟩,rfl⟩;by_cases hc:m=l.toNat;exact .inl (by rw[hl];omega);refine .inr ⟨p.add (l.toNat*K.n),c,e',fr,by simp[hc],?_,?_,?_,?_⟩;obtain⟨b,o,sp⟩:=p;simp only at f;subst f;rw[Je];obtain⟨b,o,sp⟩:=p;simp only at f;subst f;rw[Je];exact hb;obtain⟨b,o,sp⟩:=p;simp only at f;subst f;rw[Je,hl];(have:l.toNat*K.n+(h.toNat - l.toNat)*K.n≤xs.length*K.n:=by rw[←Kc];exact Iz _ (by omega));have h9:(bR m K).n=m*K.n:=rfl;rw[hm] at this;simp only[h9] at j⊢;omega;obtain⟨b,o,sp⟩:=p;simp only at f;subst f;rw[Je,hl];have h9:(bR m K).n=m*K.n:=rfl;have i:cj K F ((c.toList.drop o).take (m*K.n)) xs:=hrd;have h3:=(i.take h.toNat).drop l.toNat;simp only at h3⊢;rw[KE,Jq (Iz _ (by omega)),KO,Js] at h3;rw[Nat.sub_mul];exact h3;simp only[execOp,Instr.sliceAt,IE hT,he,Instr.sureAddr,g w,dK hz,IC,Iv,IJ,Option.map_none]
end
end Go.Sim
namespace Go.Sim
open Go
theorem At.sub {K0:Kd β} {K:Kd α} {xs:List α} (p:At K0 x o (bR m K) xs up) (h:l+k≤m):
  At K0 x (o+l*K.n) (bR k K) ((xs.drop l).take k) (λys=>up (xs.take l++ys++xs.drop (l+k))) where
 get:=λ{F cs} hx=>by
  obtain⟨a,hl,b⟩:=p.get hx
  have h1:(l+k)*K.n≤m*K.n:=Iz _ h
  rw[Kc] at h1
  have a':o+m*K.n≤cs.length:=a
  have d:(bR k K).n=k*K.n:=rfl
  refine⟨by rw[d];omega,by simp;omega,?_⟩
  have h2:=(b.drop l).take k
  rw[show(bR m K).n=m*K.n from rfl,fU (by omega)] at h2
  rw[d];exact h2
 set:=λ{F cs c ys} hx hy=>by
  obtain⟨a,hl,b⟩:=p.get hx
  obtain⟨g,f⟩:=hy
  have h1:(l+k)*K.n≤m*K.n:=Iz _ h
  rw[Kc] at h1
  have e:cj K F ((((cs.drop o).take (bR m K).n).take (l*K.n))++c++(((cs.drop o).take (bR m K).n).drop (l*K.n+k*K.n))) (xs.take l++ys++xs.drop (l+k)):=by
   have h3:=b.take l
   have h4:=b.drop (l+k)
   rw[Kc] at h4
   exact(h3.append f).append h4
  have:=p.set hx (c:=_) (z:=xs.take l++ys++xs.drop (l+k)) ⟨by simp;omega,e⟩
  refine cast (congrArg (λl=>K0.rd F l _) ?_) this
  exact yG (u:=l*K.n) (q:=k*K.n) (m:=m*K.n) h1
def Qu:Value→Int| .int _ x=>x|_=>0
def UN {α β:Type} [BEq α] (K:Kd α) (V:Kd β) (b:Nat) (ps:List (α×β)) (x:α) (st:Int):bM:= .any λh=>∃es a,(∀F,B_ K V F es.toList ps)∧wB es a∧(∃(j:Nat) (e:MapEntry),es[j]? =some e∧(e.born:Int)=st∧nE x ps 0=some j)∧h=dv.one b (.map es a)
theorem Da {α β:Type} {K:Kd α} {V:Kd β} (hK:la K) (hV:la V) {F G:Fz}:∀{es:List MapEntry} {ps:List (α×β)},B_ K V F es ps→B_ K V G es ps|[],[],h=>h|e::es,p::ps,⟨⟨c1,a1,b1⟩,⟨c2,a2,b2⟩,c⟩=>⟨⟨c1,hK _ _ _ _ a1,b1⟩,⟨c2,hV _ _ _ _ a2,b2⟩,Da hK hV c⟩|[],_::_,h=>h.elim|_::_,[],h=>h.elim
theorem Ep:∀{es:List MapEntry} {ps:List (α×β)},B_ K V F es ps→es.length=ps.length|[],[],_=>rfl|_::es,_::ps,⟨_,_,c⟩=>by simp[Ep c]|[],_::_,h=>h.elim|_::_,[],h=>h.elim
section
variable {α β:Type} [BEq α] [LawfulBEq α]
theorem ug:∀{ps:List (α×β)},nJ x (eC x u ps)=some u|[]=>by simp[eC,nJ]|p::ps=>by cases h:(x==p.1) with|true=>simp[eC,nJ,h]|false=>simp[eC,nJ,h,ug (ps:=ps)]
theorem uh {x:α} {u z:β} {ps:List (α×β)}:dh x (eC x u ps) z=u:=by simp[dh,ug]
theorem we:∀{ps:List (α×β)} {i:Nat},nE x (eC x u ps) i=match nE x ps i with|some j=>some j|none=>some (i+ps.length)
 |[],i=>by simp[eC,nE]
 |p::ps,i=>by
  cases h:(x==p.1) with
  |true=>simp[eC,nE,h]
  |false=>
   simp only[eC,nE,h,Il,we (ps:=ps),IN]
   cases nE x ps (i+1) with
   |some j=>rfl
   |none=>simp;omega
theorem Er {V:Kd β} (h2:V.val F val v):∀{es:List MapEntry} {ps:List (α×β)} {i j:Nat},B_ K V F es ps→nE x ps i=some (i+j)→B_ K V F (es.modify j λe=>{e with val:=val}) (eC x v ps)|e::es,p::ps,i,j,⟨a,b,c⟩,h=>(by cases d:(x==p.1) with|true=>simp only[nE,d,Im,Option.some.injEq] at h;(have:j=0:=by omega);subst this;have hx:x=p.1:=eq_of_beq d;simp only[eC,d,Im,List.modify_zero_cons];exact⟨by rw[hx];exact a,h2,c⟩|false=>simp only[nE,d,Il] at h;have:=xg h;cases j with|zero=>omega|succ j=>simp only[eC,d,Il,LT];exact⟨a,b,Er h2 c (by rw[h];congr 1;omega)⟩)|[],[],_,_,_,h=>by simp[nE] at h|[],_::_,_,_,h,_=>h.elim|_::_,[],_,_,h,_=>h.elim
end
section
variable {P:Program} {ops:Array Oper} {Q:Exit→Act→World→Prop} {rest:List Oper} {F0:Fz} {n:Nat} {E:List (Nat×SV)} {L:List bM}
variable {d:Nat} {op:Op} {ty:TypeId} {pos:String} {aft:Array Edge} {s:SV}
variable {α β:Type} [BEq α] [LawfulBEq α]
theorem PD (hg:decide (0<k∧lo+k≤hi∧hi≤m)=true) (hT:P.underlying T=some (.array k e)) (hX:ev E X=some (.raw (.slice (some (if m=lo then⟨b,off,none⟩ else⟨b,off+lo*sz,none⟩)) (hi - lo) (m - lo)))):gT P n E L ⟨some d,.sliceToArrayPointer T X,ty,pos,aft,none⟩ (.raw (.pointer (some ⟨b,off+lo*sz,none⟩))):=MR λF a hE w=>by obtain⟨h0,h1,h2⟩:=Ir hg;(have c:m≠lo:=by omega);(have f:¬hi - lo<k:=by omega);simp[execOp,Instr.arrayAt,IE hT,hE.raw hX,c,f]
theorem St.mapTurn {w:World} {r r':bM} (hs:St F w (r::L)) (hr:∀h,r.holds F h→∃e c,h=dv.one b (.map e c)) (hb:w.heap[b]? =some (.map es clock)) (hr':r'.holds F (dv.one b (.map es' clock'))):St F {w with heap:=w.heap.setIfInBounds b (.map es' clock')} (r'::L):=by refine hs.turn λh hh hon=>?_;obtain⟨es0,clock0,rfl⟩:=hr h hh;have hlt:=gp hb;refine⟨dv.one b (.map es' clock'),hr',⟨rfl,rfl,rfl,λq _ hq=>?_⟩,λq hq=> .inl ?_,λq o ho=>?_⟩;(have hne:b≠q:=λe=>by subst e;rw[Mo] at hq;cases hq);exact Ju hne;by_cases hqb:q=b;subst hqb;rw[Mo];simp;exact absurd (MY _ hqb) hq;obtain⟨rfl,rfl⟩:=MT ho;exact I6 hlt
theorem OC {K:Kd α} {V:Kd β} {T kt et:TypeId} {b:Nat} {ps:List (α×β)} {M X:Operand} {x:α} {z:β} {s1:SV} (fK:la K) (fV:la V) (hk:QV P kt K) (hT:P.underlying T=some (.map kt et)) (hz:ZV P et V z)
  (hM:ev E M=some (.raw (.map (some b)))) (hX:ev E X=some s1) (h1:il s1 K x) (hd:Nat.blt d n=true)
  (k:∀st:Int,bl F0 n ((d,.tup [.val V (dh x ps z),.raw (.int .i64 st)])::E) (UN K V b (eC x (dh x ps z) ps) x st::L) (wpList P ops Q rest)):
  bl F0 n E (.mp K V b ps::L) (wpList P ops Q (⟨some d,.mapEntry T M X,ty,pos,aft,none⟩::rest)):=ME rfl λF a w h0 hE hS=>by
 obtain⟨h,⟨es,clock,⟨hrd,hst⟩,rfl⟩,hon⟩:=hS.head
 have hb:w.heap[b]? =some (.map es clock):=hon b _ (Mo _ _)
 have v1:=h1 F _ (hE.eval hX)
 have hc:=hk.chk (b:=false) (w:=w) v1
 obtain⟨zv,hz1,hz2⟩:=hz
 have key:∃es' clock' v st,(Instr.mapEntry T (.map (some b)) (a.eval X)).run P w= .ok (.tuple #[v,goInt (st:Nat)]) {w with heap:=w.heap.setIfInBounds b (.map es' clock')}∧V.val F v (dh x ps z)∧
    B_ K V F es'.toList (eC x (dh x ps z) ps)∧wB es' clock'∧∃(j:Nat) (e:MapEntry),es'[j]? =some e∧e.born=st∧nE x (eC x (dh x ps z) ps) 0=some j:=by
  rcases fW hk v1 (w:=w) (i:=0) hrd with⟨a1,a2,a3⟩|⟨j,e,a1,a2,a3,⟨y,a4,a5⟩,q,a6,a7⟩
  · have hzv:=mX hz1 w
    have hg:dh x ps z=z:=by simp[dh,a2]
    rw[hg]
    refine⟨es.push {key:=a.eval X,val:=zv,born:=clock},clock+1,zv,clock,?_,hz2 F,?_,yY hst,es.size,{key:=a.eval X,val:=zv,born:=clock},by simp,rfl,?_⟩
    · simp only[Instr.mapEntry,IC,IE hT,Iv,Jw (P:=P) hb,hc,hk.find a3,hzv,JZ (P:=P) _ hb,IJ]
    · rw[vZ a1,LO];exact yZ v1 (hz2 F) hrd
    · rw[we,a1];simp;have:=Ep hrd;simp at this;omega
  · have hj:es[j]? =some e:=by simpa using a2
    have hsame:Instr.sameBits 10000 e.key (a.eval X)=true:=hk.same a6 v1 a7
    simp only[IX] at a3 a1
    have hg:dh x ps z=y:=by simp[dh,a4]
    have a1':nE x ps 0=some (0+j):=by rw[a1];simp
    have hrd2:B_ K V F (es.modify j λe=>{e with key:=a.eval X}).toList (eC x y ps):=by
      have h3:=BB (key:=a.eval X) (val:=e.val) (v:=y) v1 a5 hrd a1'
      rw[Lz]
      have:(es.toList.modify j λe'=>{e' with key:=a.eval X,val:=e.val})=es.toList.modify j λe=>{e with key:=a.eval X}:=by
       refine KG λi=>?_
       rw[List.getElem?_modify,List.getElem?_modify]
       by_cases hij:j=i
       · subst hij
         simp[hj]
       · simp[hij]
      rw[←this];exact h3
    have hjl:j<es.size:=(Kb.1 hj).1
    rw[hg]
    refine⟨es.modify j λe=>{e with key:=a.eval X},clock,e.val,e.born,?_,a5,hrd2,rh hst λ_=>rfl,j,{e with key:=a.eval X},?_,rfl,?_⟩
    · simp only[Instr.mapEntry,IC,IE hT,Iv,Jw (P:=P) hb,hc,hk.find a3,Instr.keyThatStays,hj,Kx,Jb,hsame,LH,IJ,JZ (P:=P) _ hb]
    · rw[KQ];simp[hj]
    · rw[we,a1]
 obtain⟨es',clock',v,st,hrun,hv,hrd',hst',j,e,hj,hje,hpos⟩:=key
 have hS':St F {w with heap:=w.heap.setIfInBounds b (.map es' clock')} (UN K V b (eC x (dh x ps z) ps) x st::L):=
  hS.mapTurn (λh hh=>by obtain⟨es,clock,_,rfl⟩:=hh;exact⟨_,_,rfl⟩) hb ⟨es',clock',λG=>Da fK fV hrd',hst',⟨j,e,hj,by rw[hje],hpos⟩,rfl⟩
 unfold Oper.wp
 simp only[execOp,hE.raw hM,hrun,IC,Iv,IJ,Oper.upon]
 exact k st F _ _ h0 (hE.put hd (by simp only[SV.ok];exact⟨[v,.int .i64 st],rfl,by simp only[SV.oks,SV.ok,LR];exact hv⟩)) hS'
theorem OD {K:Kd α} {V:Kd β} {T:TypeId} {b:Nat} {ps:List (α×β)} {M S Y:Operand} {x:α} {y:β} {st:Int} {q:IntKind} {s2:SV} (hM:ev E M=some (.raw (.map (some b)))) (hSt:ev E S=some (.raw (.int q st))) (hY:ev E Y=some s2) (h2:il s2 V y) (k:bl F0 n E (.mp K V b (eC x y ps)::L) (wpList P ops Q rest)):bl F0 n E (UN K V b ps x st::L) (wpList P ops Q (⟨none,.entryStore T M S Y,ty,pos,aft,none⟩::rest)):=ME rfl λF a w h0 hE hS=>by obtain⟨h,⟨es,clock,hrd,hst,⟨j,e,hj,hje,hpos⟩,rfl⟩,hon⟩:=hS.head;have hb:w.heap[b]? =some (.map es clock):=hon b _ (Mo _ _);have v2:=h2 F _ (hE.eval hY);have hjl:j<es.size:=(Kb.1 hj).1;(have hfi:es.findIdx? (λe=>(e.born:Int)==st)=some j:=by rw[Array.findIdx?_eq_some_iff_getElem];refine⟨hjl,?_,λi hi=>?_⟩;(have:es[j]=e:=by have:=(Kb.1 hj).2;exact this);rw[this,hje];simp;have he:es[j]=e:=(Kb.1 hj).2;(have hne:es[i].born≠es[j].born:=λh=>by have hnd:=hst.2;(have h1:(es.toList.map (·.born))[i]? =some es[i].born:=by rw[Kt,JO,JG (by omega)];rfl);(have h2:(es.toList.map (·.born))[j]? =some es[j].born:=by rw[Kt,JO,JG hjl];rfl);have:=(List.getElem?_inj (by simp;omega) hnd).1 (h1.trans (by rw[h];exact h2.symm));omega);simp only[Bool.not_eq_true,beq_eq_false_iff_ne];intro h;apply hne;rw[he];(have:(es[i].born:Int)=(e.born:Int):=by rw[h,hje]);exact_mod_cast this);(have hrun:(Instr.entryStore T (.map (some b)) (.int q st) (a.eval Y)).run P w= .ok () {w with heap:=w.heap.setIfInBounds b (.map (es.modify j λe=>{e with val:=a.eval Y}) clock)}:=by simp only[Instr.entryStore,IC,Jw (P:=P) hb,Iv,asInt,asIntOf,IJ,hfi,JZ (P:=P) _ hb]);have hS':St F {w with heap:=w.heap.setIfInBounds b (.map (es.modify j λe=>{e with val:=a.eval Y}) clock)} (.mp K V b (eC x y ps)::L):=hS.mapTurn (λh hh=>by obtain⟨es,clock,_,_,_,rfl⟩:=hh;exact⟨_,_,rfl⟩) hb ⟨es.modify j λe=>{e with val:=a.eval Y},clock,⟨by rw[Lz];exact Er v2 (i:=0) (j:=j) (hrd F) (by rw[hpos];simp),rh hst λ_=>rfl⟩,rfl⟩;unfold Oper.wp;simp only[execOp,hE.raw hM,hE.raw hSt,hrun,IC,Iv,IJ,Oper.upon];exact k F _ _ h0 hE hS'
end
section
variable {P:Program} {ops:Array Oper} {Q:Exit→Act→World→Prop} {rest:List Oper} {F0:Fz} {n:Nat} {E:List (Nat×SV)} {L:List bM}
variable {d:Nat} {op:Op} {ty:TypeId} {pos:String} {aft:Array Edge} {s:SV}
variable {α β:Type} [BEq α]
theorem Pc {K:Kd α} {q:IntKind} {T kt et:TypeId} {b:Nat} {ps:List (α×Int)} {M X:Operand} {x y:α} {z u:Int} {st:Int} {s1:SV} (hu:dh x ps z=u) (hk:QV P kt K) (hT:P.underlying T=some (.map kt et)) (hz:ZV P et (bD q) z) (hM:ev E M=some (.raw (.map (some b)))) (hX:ev E X=some s1) (h1:il s1 K x):gT P n E (UN K (bD q) b ps y st::L) ⟨some d,.lookup T M X false,ty,pos,aft,none⟩ (.raw (.int q u)):=NM λF a hE w G hg hS=>by obtain⟨h,⟨es,clock,hrd,hst,_,rfl⟩,hon⟩:=hS.head;have hb:w.heap[b]? =some (.map es clock):=hon b _ (Mo _ _);obtain⟨v,hv,hr⟩:=wd hk hT hz (hrd G) (h1 G _ ((hE.mono hg).eval hX));obtain rfl:=ra.1 hv;simp only[execOp,hE.raw hM,(hr w (some b) ⟨clock,hb⟩).1,IC,Iv,IJ,hu]
end
end Go.Sim
namespace Go.Sim
open Go
theorem N6 [Fu] {S R:Type} {step:S→Option (tj S R)} (st:Nat→S) (res:Nat→R) (n:Nat) (hd:∀i,i<n→(step (st i)=some (.next (st (i+1)))∧res i=res (i+1))∨step (st i)=some (.done (res i))) (hn:step (st n)=some (.done (res n))):∀k i,n - i=k→i≤n→Loop.run step (st i)=some (res i)|0,i,hk,hi=>by(have:i=n:=by omega);subst this;exact Mp hn|k+1,i,hk,hi=>by rcases hd i (by omega) with⟨h1,h2⟩|h1;rw[My h1,h2];exact N6 st res n hd hn k (i+1) (by omega) (by omega);exact Mp h1
theorem MO [Fu] {S R:Type} {step:S→Option (tj S R)} (st:Nat→S) (res:Nat→R) (n:Nat) (hd:∀i,i<n→(step (st i)=some (.next (st (i+1)))∧res i=res (i+1))∨step (st i)=some (.done (res i))) (hn:step (st n)=some (.done (res n))) {s0:S} (h0:s0=st 0):Loop.run step s0=some (res 0):=by subst h0;exact N6 st res n hd hn _ 0 rfl (by omega)
theorem cu {xs:List α} (h:i<xs.length):idx xs (i:Int)=some xs[i]:=by unfold idx;(have h1:(0:Int)≤(i:Int):=by omega);(have h2:(i:Int)<(xs.length:Int):=by omega);simp[h1,h2,h]
theorem wrap64 (h: -9223372036854775808≤x∧x≤9223372036854775807):IntKind.i64.wrap x=x:=IntWalk.i64_in _ (by omega)
theorem aW {xs ys:List α} (h:xs.length+ys.length≤dJ):app xs ys=some (xs++ys):=by unfold app;simp[h]
def q6:List Int→List Int→Bool|x::xs,y::ys=>if x=y then q6 xs ys else decide (x<y)|_,_=>false
theorem jq:∀x,q6 x x=false|[]=>rfl|a::x=>by simp[q6,jq x]
theorem lB:∀{x y z:List Int},q6 x y=true→q6 y z=true→q6 x z=true|[],_,_,h,_=>by simp[q6] at h|_::_,[],_,h,_=>by simp[q6] at h|_::_,_::_,[],_,h=>by simp[q6] at h|a::x,b::y,c::z,h1,h2=>by simp only[q6] at h1 h2⊢;by_cases d:a=b;subst d;rw[Jm rfl] at h1;by_cases e:a=c;subst e;rw[Jm rfl] at h2⊢;exact lB h1 h2;rw[Jf e] at h2⊢;exact h2;rw[Jf d] at h1;by_cases f:b=c;subst f;rw[Jf d];exact h1;rw[Jf f] at h2;have h1:=Ir h1;have h2:=Ir h2;rw[Jf (by omega)];exact Io (by omega)
theorem qF:∀{x y:List Int},x.length=y.length→x≠y→q6 x y=true∨q6 y x=true|[],[],_,h=>absurd rfl h|a::x,b::y,hl,h=>by simp only[q6];by_cases c:a=b;subst c;simp only[LH];exact qF (by simpa using hl) (λe=>h (by rw[e]));rw[Jf c,Jf (λe=>c e.symm)];simp only[IB];omega|[],_::_,hl,_=>by simp at hl|_::_,[],hl,_=>by simp at hl
def aV (x:List Int):Prop:=∀b∈x,0≤b∧b≤255
theorem BF:∀{x y:List Int},aV x→aV y→x.length=y.length→(QP x y<0↔q6 x y=true)|[],[],_,_,_=>by simp[QP,Lib.bytesOf,Lib.compareBytes,q6]|a::x,b::y,hx,hy,hl=>by have ih:=BF (x:=x) (y:=y) (λc hc=>hx c (by simp[hc])) (λc hc=>hy c (by simp[hc])) (by simpa using hl);have ha:=hx a (by simp);have hb:=hy b (by simp);(have key:∀p q:Int,0≤p→p≤255→0≤q→q≤255→(UInt8.ofNat p.toNat<UInt8.ofNat q.toNat↔p<q):=by intro p q h1 h2 h3 h4;rw[UInt8.lt_iff_toNat_lt,LI,LI,Lv (by omega),Lv (by omega)];omega);have k1:=key a b ha.1 ha.2 hb.1 hb.2;have k2:=key b a hb.1 hb.2 ha.1 ha.2;simp only[QP,Lib.bytesOf,IU,Lib.compareBytes,q6] at ih⊢;by_cases h1:a<b;rw[Jm (k1.2 h1),Jf (by omega)];simp[h1];rw[Jf (λh=>h1 (k1.1 h))];by_cases h2:b<a;rw[Jm (k2.2 h2),Jf (by omega)];simp;omega;rw[Jf (λh=>h2 (k2.1 h)),Jm (by omega)];exact ih|[],_::_,_,_,hl=>by simp at hl|_::_,[],_,_,hl=>by simp at hl
def pC {α:Type} [BEq α] (ks:List α) (x:α):List α:=if ks.elem x then ks else ks++[x]
section
variable {α β:Type} [BEq α] [LawfulBEq α]
theorem zl {ks:List α} {x y:α}:y∈pC ks x↔y∈ks∨y=x:=by unfold pC;split;rename_i h;(have hx:x∈ks:=by simpa using h);exact⟨.inl,λh=>h.elim id λe=>e▸hx⟩;simp
theorem DQ {ks:List α} (h:ks.Nodup):(pC ks x).Nodup:=by unfold pC;split;exact h;rename_i hx;(have hx:x∉ks:=by simpa using hx);rw[J9];exact⟨h,by simp,λa ha b hb=>by simp at hb;subst hb;exact λe=>hx (e▸ha)⟩
theorem wg {l ks:List α} {y:α}:y∈l.foldl pC ks↔y∈ks∨y∈l:=by induction l generalizing ks with|nil=>simp|cons x l ih=>rw[JK,ih,zl,I9];exact or_assoc
theorem sE {l ks:List α} (h:ks.Nodup):(l.foldl pC ks).Nodup:=by induction l generalizing ks with|nil=>exact h|cons x l ih=>exact ih (DQ h)
end
theorem AN [BEq α] {l ks:List α}:(l.foldl pC ks).length≤ks.length+l.length:=by induction l generalizing ks with|nil=>simp|cons x l ih=>have:=ih (ks:=pC ks x);(have h2:(pC ks x).length≤ks.length+1:=by unfold pC;split<;>simp);simp only[JK,IN];omega
section
variable {α β:Type} [BEq α] [LawfulBEq α]
theorem zm {l ks:List α} (h:(l.foldl pC ks).length=ks.length+l.length):l.Nodup∧∀x∈l,x∉ks:=by induction l generalizing ks with|nil=>simp|cons x l ih=>simp only[JK,IN] at h;have h1:=AN (l:=l) (ks:=pC ks x);by_cases hx:x∈ks;(have:(pC ks x).length=ks.length:=by simp[pC,hx]);omega;(have h2:pC ks x=ks++[x]:=by simp[pC,hx]);(have h3:(pC ks x).length=ks.length+1:=by rw[h2];simp);obtain⟨h4,h5⟩:=ih (ks:=pC ks x) (by omega);refine⟨Ki.2 ⟨λhm=>h5 x hm (zl.2 (.inr rfl)),h4⟩,λy hy=>?_⟩;rcases I9.1 hy with rfl|hy;exact hx;exact λhk=>h5 y hy (zl.2 (.inl hk))
theorem wh:∀{ps:List (α×β)},(eC x v ps).map (·.1)=pC (ps.map (·.1)) x|[]=>by simp[eC,pC]|p::ps=>by have ih:=wh (x:=x) (v:=v) (ps:=ps);by_cases h:x=p.1;subst h;simp[eC,pC];(have a:(x==p.1)=false:=by simpa using h);simp only[eC,a,Il,IU,ih,pC];by_cases hm:x∈ps.map (·.1);(have h2:(p.1::ps.map (·.1)).elem x=true:=by simpa using Or.inr (by simpa using hm));(have h3:(ps.map (·.1)).elem x=true:=by simpa using hm);rw[Jm h3,Jm h2];(have h2:¬(p.1::ps.map (·.1)).elem x=true:=by rw[List.elem_iff];intro h4;rcases I9.1 h4 with h5|h5;exact h h5;exact hm h5);(have h3:¬(ps.map (·.1)).elem x=true:=by rw[List.elem_iff];exact hm);rw[Jf h3,Jf h2];rfl
end
end Go.Sim
