import Derived.Test.YtkjlhdndbdenaaaGreatDoorSimB
import Derived.Laws.StructEq
import Derived.Lib.ConvBytes
import Derived.Laws.BytesString
import Derived.ClaimOpenTies
import Derived.Leaving
import Derived.Laws.IdiomRangeMap
import Derived.Laws.Strings
set_option linter.all false
set_option autoImplicit true
set_option relaxedAutoImplicit true
set_option autoImplicit true
set_option relaxedAutoImplicit true
namespace Go.Sim
open Go
section
variable {P:Program} {ops:Array Oper} {Q:Exit→Act→World→Prop} {rest:List Oper} {F0:Fz} {n:Nat} {E:List (Nat×SV)} {L:List bJ}
variable {d:Nat} {op:Op} {ty:TypeId} {pos:String} {aft:Array Edge} {s:SV}
def tB (P:Program) (u:TypeId):Bool:=match P.underlying u with|some (.slice _)|some .string=>true|_=>false
theorem ke (h:tB P u=true):(∃e,P.underlying u=some (.slice e))∨P.underlying u=some .string:=by unfold tB at h;split at h;rename_i e he;exact .inl ⟨_,he⟩;rename_i he;exact .inr he;cases h
theorem sy {i:TypeInfo} {z:Value} (ht:P.underlying t=some (.slice e)) (hu:tB P u=true) (hi:P.info? e=some i) (hz:i.zero=some z) {w:World} {a:List Value} (hv:nB P w i.size v m a) (h0:0<m) (f:(m:Int)≤9223372036854775807) (g:m*i.bytes≤281474976710656):(Builtin.append_ #[t,u] ty #[.slice none 0 0,v]).run P w= .ok (.slice (some ⟨w.heap.size,0,none⟩) m (grownCap w m 0 e)) (w.drew.alloc (.cells (a.toArray++Builtin.zeroCells z.cells (grownCap w m 0 e - m)) e)):=by(have hn:m≠0:=by omega);(have b:¬(9223372036854775807<(m:Int)):=by omega);(have c:¬(281474976710656<Builtin.nextslicecap m 0*i.bytes):=by rw[nextslicecap_zero h0];omega);have hf:=hv.cells w.drew rfl m (wy _);rw[←hv.nl,w5] at hf;have d:=hv.len w;rcases ke hu with⟨e',hu⟩|hu<;>simp[Builtin.append_,wo ht,wo hu,sizeOf,typeInfo,zeroValue,hi,hz,d,hn,b,c,Question.forced,run_firstCells_none,hf,newRow,grownCap]
theorem sA {u:TypeId} {i:TypeInfo} (ht:P.underlying t=some (.slice e)) (hu:tB P u=true) (hi:P.info? e=some i) {b:Array Value} {w:World} (hg:w.heap[g]? =some (.cells b e (0,0))) {a:List Value} (hv:nB P w i.size v m a) (h1:∀u∈a,u.oneCell'=true) (hr:sLen+m≤sCap) (d:sLen*i.size+a.length≤b.size):(Builtin.append_ #[t,u] ty #[.slice (some ⟨g,0,none⟩) sLen sCap,v]).run P w= .ok (.slice (some ⟨g,0,none⟩) (sLen+m) sCap) (w.setRow g (b.toList.take (sLen*i.size)++a++b.toList.drop (sLen*i.size+a.length)).toArray):=by have hf:=hv.cells w rfl m (wy _);rw[←hv.nl,w5] at hf;have f:=hv.len w;have c:=run_storeCells_at P g (sLen*i.size) e a 0 b w hg (by simpa using d) h1;simp only[ym] at c;(have h:(⟨g,0,none⟩:Addr).add (sLen*i.size)=⟨g,sLen*i.size,none⟩:=by rw[wP,wL]);rcases ke hu with⟨e',hu⟩|hu<;>simp[Builtin.append_,wo ht,wo hu,sizeOf,typeInfo,hi,f,hr,hf,h,c]
theorem sB {i:TypeInfo} {z:Value} (ht:P.underlying t=some (.slice e)) (hu:tB P u=true) (hi:P.info? e=some i) (hz:i.zero=some z) {w:World} {b:Addr} {olds:List Value} (g:olds.length=sLen*i.size) (holds:∀j v,olds[j]? =some v→w.cell? (b.add j)=some v) {a:List Value} (hv:nB P w i.size v m a) (hg:sCap<sLen+m) (l:((sLen+m:Nat):Int)≤9223372036854775807) (k:Builtin.nextslicecap (sLen+m) sCap*i.bytes≤281474976710656):(Builtin.append_ #[t,u] ty #[.slice (some b) sLen sCap,v]).run P w= .ok (.slice (some ⟨w.heap.size,0,none⟩) (sLen+m) (grownCap w (sLen+m) sCap e)) (w.drew.alloc (.cells (olds.toArray++a.toArray++Builtin.zeroCells z.cells (grownCap w (sLen+m) sCap e - (sLen+m))) e)):=by(have hn:¬(sLen+m≤sCap):=by omega);(have c:¬(9223372036854775807<((sLen:Int)+(m:Int))):=by omega);(have d:¬(281474976710656<Builtin.nextslicecap (sLen+m) sCap*i.bytes):=by omega);have hf:=hv.cells w.drew rfl m (wy _);rw[←hv.nl,w5] at hf;have f:=hv.len w;have h:=zi (P:=P) w.drew i.size sLen b sLen sCap olds g (by simpa using holds);rcases ke hu with⟨e',hu⟩|hu<;>(simp[Builtin.append_,wo ht,wo hu,sizeOf,typeInfo,zeroValue,hi,hz,f,hn,c,d,Question.forced,hf,h,newRow,grownCap];congr 2;apply Array.ext';simp[wM])
theorem pV {α:Type} {K:Kd α} {z:α} {bytes:Nat} {t u e:TypeId} {v:Value} {xs ys:List α} {F:Fz} {h:cD} {w:World} (hroom:xs.length+ys.length≤c7) (hT:P.underlying t=some (.slice e)) (hu:tB P u=true) (he:AT P e K z bytes)
   (hh:(bJ.own K v e xs).holds F h) (hon:∀b o,h b=some o→w.heap[b]? =some o) {src:Value} {news:List Value} (hv:nB P w K.n src ys.length news) (hnr:bd K F news ys) (hn1:∀u∈news,u.oneCell'=true):
   ∃v' w' h',(Builtin.append_ #[t,u] ty #[v,src]).run P w= .ok v' w'∧(bJ.own K v' e (xs++ys)).holds F h'∧yG w w' h∧(∀b,h' b≠none→h b≠none∨w.heap.size≤b)∧(∀b o,h' b=some o→w'.heap[b]? =some o):=by
 obtain⟨ie,zv,h1,h2,h3,h4,h5,h6,h7⟩:=he.out
 have hzs:zv.cells.size=K.n:=by have:=K.len (h7 F);simpa using this
 have hbytes:(xs.length+ys.length)*ie.bytes≤140737488355328:=by
   have:(xs.length+ys.length)*ie.bytes≤c7*4096:=Nat.mul_le_mul hroom (by omega)
   unfold c7 at this;omega
 have hmax:xs.length+ys.length≤maxLen:=by unfold c7 at hroom;simp only[maxLen];omega
 have hsmall:xs.length+ys.length≤9223372036854775807:=by simp only[maxLen] at hmax;omega
 have hlen:(xs++ys).length=xs.length+ys.length:=by simp
 have hnl:news.length=ys.length*K.n:=hv.nl
 rw[←h3] at hv
 by_cases hy:ys.length=0
 · have:ys=[]:=wR hy
   subst this
   have hl0:=hv.len w
   have hc0:=hv.cells w rfl 0 (wy _)
   simp only[zk,yh] at hc0
   simp only[xc] at hl0
   refine⟨v,w,h,?_,by simpa using hh,⟨rfl,rfl,rfl,λ_ _ _=>rfl⟩,λb hb=> .inl hb,hon⟩
   rcases hh with⟨rfl,rfl,_⟩|⟨g,cap,cur,rfl,_,h8,_⟩
   · rcases ke hu with⟨e',hud⟩|hud<;>simp[Builtin.append_,wo hT,wo hud,sizeOf,typeInfo,h1,hl0,hc0]
   · rcases ke hu with⟨e',hud⟩|hud<;>simp[Builtin.append_,wo hT,wo hud,sizeOf,typeInfo,h1,hl0,hc0,h8,storeCells]
 · have fresh:∀(old:Nat) (olds:List Value),bd K F olds xs→old<xs.length+ys.length→
       (bJ.own K (.slice (some ⟨w.heap.size,0,none⟩) (xs.length+ys.length) (grownCap w (xs.length+ys.length) old e)) e (xs++ys)).holds F
         (cD.one w.heap.size (.cells (olds.toArray++news.toArray++Builtin.zeroCells zv.cells (grownCap w (xs.length+ys.length) old e - (xs.length+ys.length))) e (0,0))):=by
     intro old olds ho hlt
     have hge:=grownCap_ge w (xs.length+ys.length) old e
     have hcm:grownCap w (xs.length+ys.length) old e≤maxLen:=grownCap_le_maxLen w (xs.length+ys.length) old e hmax
     have hol:=ho.len
     refine .inr ⟨w.heap.size,_,_,by rw[hlen],rfl,by rw[hlen];exact hge,hcm,?_,?_⟩
     · simp only[Array.size_append,xT,size_zeroCells,hzs,hol,hnl,←xp]
       congr 1;omega
     · rw[hlen]
       simp only[Array.toList_append]
       have e1:(olds++news).length=(xs.length+ys.length)*K.n:=by rw[wi,hol,hnl,xp]
       rw[←e1,xl];exact ho.append hnr
   have alloc:∀(cells:Array Value),yG w (w.drew.alloc (.cells cells e)) h∧(∀b,cD.one w.heap.size (.cells cells e (0,0)) b≠none→h b≠none∨w.heap.size≤b)∧
       (∀b o,cD.one w.heap.size (.cells cells e (0,0)) b=some o→(w.drew.alloc (.cells cells e)).heap[b]? =some o):=by
     intro cells
     obtain⟨a1,a2⟩:=iq w (.cells cells e)
     exact⟨⟨rfl,rfl,rfl,λb hb _=>yN w _ b hb⟩,λb hb=> .inr (a1 b hb),a2⟩
   rcases hh with⟨rfl,rfl,rfl⟩|⟨g,cap,cur,rfl,rfl,a3,a4,a5,a6⟩
   · have hr:=sy (ty:=ty) hT hu h1 h2 hv (by omega) (by simp only[xc] at hmax;omega) (by have hb:=hbytes;simp only[xc,wL] at hb;omega)
     have hf:=fresh 0 [] rfl (by simp;omega)
     simp only[xc,wL,yr,wQ] at hf⊢
     exact⟨_,_,_,hr,hf,alloc _⟩
   · have hg:=hon g _ (zN _ _)
     by_cases hr:xs.length+ys.length≤cap
     · have hfit:xs.length*ie.size+news.length≤cur.size:=by rw[hnl,h3,a5,←xp];exact wh _ hr
       have hrun:=sA (ty:=ty) hT hu h1 hg hv hn1 hr hfit
       refine⟨_,_,cD.one g (.cells (cur.toList.take (xs.length*ie.size)++news++cur.toList.drop (xs.length*ie.size+news.length)).toArray e (0,0)),hrun,.inr ⟨g,cap,_,by rw[hlen],rfl,by rw[hlen];exact hr,a4,?_,?_⟩,
         ⟨rfl,rfl,rfl,λk _ hn=>setRow_other w g k _ (λe=>by rw[e,zN] at hn;cases hn)⟩,λb hb=> .inl ?_,λb o e'=>?_⟩
       · simp only[xT,wi,wx,wO,xg]
         omega
       · rw[hlen]
         have e1:(cur.toList.take (xs.length*ie.size)++news).length=(xs.length+ys.length)*K.n:=by
           rw[wi,wx,hnl,h3,xp]
           have:xs.length*K.n≤cur.toList.length:=by simp only[xg,a5];exact wh _ a3
           omega
         rw[←e1,xl,h3];exact a6.append hnr
       · by_cases hbg:b=g
         · subst hbg;rw[zN];simp
         · exact absurd (AA _ hbg) hb
       · obtain⟨rfl,rfl⟩:=As e';exact setRow_heap w b cur _ e _ hg
     · have holds:∀j u,(cur.toList.take (xs.length*K.n))[j]? =some u→w.cell? ((⟨g,0,none⟩:Addr).add j)=some u:=fun j u hu=>by
         have hj:j<xs.length*K.n:=by have:=(we.1 hu).1;rw[a6.len] at this;exact this
         rw[wP,wL,zb w g j cur e (0,0) hg]
         rw[wu hj] at hu;simpa using hu
       have hrun:=sB (ty:=ty) hT hu h1 h2 (b:=⟨g,0,none⟩) (sLen:=xs.length) (sCap:=cap) (olds:=cur.toList.take (xs.length*K.n)) (by rw[h3];exact a6.len) holds hv (by omega) (by omega) (zm (by omega) hbytes)
       have hf:=fresh cap _ a6 (by omega)
       exact⟨_,_,_,hrun,hf,alloc _⟩
theorem Bj {α:Type} {K:Kd α} {z:α} {bytes:Nat} {t u e:TypeId} {v:Value} {xs ys:List α} {F:Fz} {w:World} (f:xs.length+ys.length≤c7) (hT:P.underlying t=some (.slice e)) (hu:tB P u=true) (he:AT P e K z bytes) (h:St F w (.own K v e xs::L)) {g:Value} {a:List Value} (hv:nB P w K.n g ys.length a) (i:bd K F a ys) (j:∀u∈a,u.oneCell'=true):∃v' w',(Builtin.append_ #[t,u] ty #[v,g]).run P w= .ok v' w'∧St F w' (.own K v' e (xs++ys)::L):=by obtain⟨f0,hh,c,d⟩:=h;have k:∀b o,f0 b=some o→w.heap[b]? =some o:=λb o e=>d.on.blk b o (by have:=c b (by simp[e]);simp[Fz.add,this,e]);obtain⟨v',w',h',r1,r2,r3,r4,r5⟩:=pV (P:=P) (ty:=ty) f hT hu he hh k hv i j;refine⟨v',w',r1,h',r2,λb hb=>?_,d.change c r3 r4 r5⟩;rcases r4 b hb with x|x;exact c b x;cases e:F.blk b with|none=>rfl|some o=>have:=fA (d.on.blk b o ((F.le_add f0).blk b o e));omega
theorem Bk {α:Type} {K:Kd α} {z:α} {bytes:Nat} {t u e:TypeId} {S V:Operand} {v:Value} {xs ys zs:List α} (hz:Go.Sim.app xs ys=some zs) (hT:P.underlying t=some (.slice e)) (hu:tB P u=true) (he:AT P e K z bytes) (hS:ev E S=some (.raw v)) (hV:ev E V=some s) (hr:Src P s K ys) (hd:Nat.blt d n=true) (k:∀v',bx F0 n ((d,.raw v')::E) (.own K v' e zs::L) (wpList P g Q f)):bx F0 n E (.own K v e xs::L) (wpList P g Q (⟨some d,.call ⟨.builtin .append,#[S,V],#[t,u]⟩,ty,pos,aft,none⟩::f)):=zQ rfl λF a w h0 hE c=>by obtain⟨b,rfl⟩:=jl hz;obtain⟨h,e1,e2,e3⟩:=hr.out c.on (hE.eval hV);obtain⟨v',w',r1,hS'⟩:=Bj (P:=P) (ty:=ty) b hT hu he c e1 e2 e3;unfold Oper.wp;simp only[execOp,resolve,invoke,builtin,wv,wF,wm,xh,wS,x7,hE.raw hS,r1,Oper.upon];exact k v' F _ _ h0 (hE.put hd (by simp only[SV.ok])) hS'
def vI (P:Program) (f:FuncId) (a:List SV) (L:List bJ) {C:Type} (s:C→SV) (L':C→List bJ):Prop:=∀F w vs,SV.oks F vs a→St F w L→Calls P f vs.toArray w λe w'=>∃y G v,e= .returned v∧F≤G∧St G w' (L' y)∧(s y).ok G v
theorem zT {f:FuncId} {X:Operand} {xs:List Operand} {g:Array TypeId} {l:List SV} {C:Type} {s:C→SV} {L':C→List bJ} (hc:∀b w,(callFunc f b).run P w= .ok (.enter f b) w) (hX:ev E X=some (.raw (.func (.func f) #[] #[]))) (hx:Dt E xs=some l) (ho:vI P f l L s L') (hd:Nat.blt d n=true) (k:∀y,bx F0 n ((d,s y)::E) (L' y) (wpList P h Q c)):bx F0 n E L (wpList P h Q (⟨some d,.call ⟨.value X,xs.toArray,g⟩,ty,pos,aft,none⟩::c)):=zQ rfl λF a w h0 hE hS=>by have hv:=AK hE hx;have h1:=ho F w _ hv hS;unfold Oper.wp;simp only[execOp,resolve,hE.raw hX,Deferred.ofValue,invoke,xh,wv,wF,wm,yr,Array.append_empty];rw[hc];exact h1.mono λe w' ⟨y,G,v,he,hg,hS',i⟩=>by subst he;exact k y G _ _ (Au h0 hg) ((hE.mono hg).put hd i) hS'
theorem Ag {f:FuncId} {fn:Func} {c:Code} {a:List SV} {C:Type} {s:C→SV} {L':C→List bJ} (m:Nat) (E0:List (Nat×SV)) (hf:P.funcs[f]? =some fn) (hb:fn.body=some c) (hn:fn.ntmps=m) (hl:Nat.ble a.length m=true) (hE:xE 0 a=E0) (k:∀F0,bx F0 m E0 L (c.wp P (bodyPost P fn λe w'=>∃y G v,e= .returned v∧F0≤G∧St G w' (L' y)∧(s y).ok G v))):vI P f a L s L':=λF w vs hv hS=>by refine calls_of_wp hf hb ?_;have d:=ii hv;have g:=xo hl;(have he:fn.ntmps - vs.toArray.size=m - a.length:=by simp[hn,d]);rw[he];(have h2:a.length+(m - a.length)=m:=by omega);have b:=Env.start hv (m - a.length);rw[h2,hE] at b;exact k F F _ w (A5 F) b hS
inductive o_ (P:Program) (E:List (Nat×SV)):List ResultVar→List SV→Prop where
 |nil:o_ P E [] []
 |tm {u:Nat} {s:SV} {l:List ResultVar} {ss:List SV} (h:look E u=some s) (r:o_ P E l ss):o_ P E (.tmp u::l) (s::ss)
 |ce {α:Type} {K:Kd α} {u T:Nat} {x:α} {l:List ResultVar} {ss:List SV} (h:look E u=some (.ptr K x)) (hT:KT P T K) (r:o_ P E l ss):o_ P E (.cell u T::l) (.val K x::ss)
def gy:List SV→SV|[s]=>s|l=> .tup l
def xA (a:Act):ResultVar→Sem Value
 | .tmp t=>pure (a.tmps.getD t undef)
 | .cell b t=>do loadVar t (←asAddr (a.tmps.getD b undef))
theorem o_.run {F:Fz} {a:Act} (hE:Env F a n E) (hS:F.on w):∀{l:List ResultVar} {ss:List SV},o_ P E l ss→∃vs:List Value,(l.mapM (xA a)).run P w= .ok vs w∧SV.oks F vs ss|_,_,.nil=>⟨[],by simp,by simp only[SV.oks]⟩|_,_,.tm h r=>by obtain⟨v,h1,h2⟩:=hE.at_ _ _ h;obtain⟨vs,h3,h4⟩:=o_.run hE hS r;refine⟨v::vs,?_,by simp only[SV.oks];exact⟨h2,h4⟩⟩;(have e:∀u,a.tmps[u]? =some v→(xA a (.tmp u)).run P w= .ok v w:=λu hu=>by simp[xA,yz,hu]);simp only[zn,wv,wF,e _ h1,wm,h3]|_,_,.ce h hT r=>by obtain⟨v,h1,h2⟩:=hE.at_ _ _ h;obtain⟨vs,h3,h4⟩:=o_.run hE hS r;simp only[SV.ok] at h2;obtain⟨p,rfl,hp⟩:=h2;obtain⟨u,hu,hk⟩:=tS hT hS hp;refine⟨u::vs,?_,by simp only[SV.oks,SV.ok];exact⟨hk,h4⟩⟩;(have e:∀u' T,a.tmps[u']? =some (.pointer (some p))→(loadVar T p).run P w= .ok u w→(xA a (.cell u' T)).run P w= .ok u w:=λu' T b hl=>by simp[xA,yz,b,asAddr,hl]);simp only[zn,wv,wF,e _ _ h1 hu,wm,h3]
theorem o_.results {F:Fz} {a:Act} {fn:Func} {l:List ResultVar} (hr:fn.results=l.toArray) (hE:Env F a n E) (hS:F.on w) (h:o_ P E l ss):∃v,(Go.results fn a.tmps).run P w= .ok v w∧(gy ss).ok F v:=by
 obtain⟨vs,h1,h2⟩:=o_.run hE hS h
 have hl:=ii h2
 have he:Go.results fn a.tmps=(do let vs←fn.results.mapM (xA a);pure (if h:vs.size=1 then vs[0] else .tuple vs)):=by
  unfold Go.results
  congr 1
 have h3:(fn.results.mapM (xA a)).run P w= .ok vs.toArray w:=by
  rw[hr,List.mapM_toArray,Sem.run_map,h1];rfl
 refine⟨if h:vs.toArray.size=1 then vs.toArray[0] else .tuple vs.toArray,by rw[he];simp only[wv,h3,wm,wF],?_⟩
 match vs,ss,h2 with
 |[],[],_=>simp only[gy,SV.ok];exact⟨[],by simp,by simp only[SV.oks]⟩
 |[v],[s],h2=>simp only[gy];simp only[SV.oks] at h2;simpa using h2.1
 |v::u::vs,s::t::ss,h2=>simp only[gy,SV.ok];exact⟨v::u::vs,by simp,h2⟩
 |[],_::_,h2=>simp only[SV.oks] at h2
 |_::_,[],h2=>simp only[SV.oks] at h2
 |[_],_::_::_,h2=>simp only[SV.oks] at h2;exact absurd h2.2 (by simp[SV.oks])
 |_::_::_,[_],h2=>simp only[SV.oks] at h2;exact absurd h2.2 (by simp[SV.oks])
theorem Bl {fn:Func} {l:List ResultVar} (hr:fn.results=l.toArray) (h:o_ P E l ss) (he:gy ss=s) (hL:L=L'):bx F0 n E L (bodyPost P fn (λe w'=>∃G v,e= .returned v∧F0≤G∧St G w' L'∧s.ok G v) .ret):=λF a w h0 hE hS=>by subst he;subst hL;obtain⟨v,h1,h2⟩:=h.results hr hE hS.on;exact⟨hE.defers,v,h1,F,v,rfl,h0,hS,h2⟩
theorem BQ {fn:Func} {l:List ResultVar} {ss:List SV} {C:Type} {s:C→SV} {L':C→List bJ} (y:C) (hr:fn.results=l.toArray) (h:o_ P E l ss) (he:gy ss=s y) (hL:L=L' y):bx F0 n E L (bodyPost P fn (λe w'=>∃y G v,e= .returned v∧F0≤G∧St G w' (L' y)∧(s y).ok G v) .ret):=λF a w h0 hE hS=>by obtain⟨v,h1,h2⟩:=h.results hr hE hS.on;exact⟨hE.defers,v,h1,y,F,v,rfl,h0,hL▸hS,he▸h2⟩
theorem BR {x:Code} (hX:ev E X=some (.raw (.bool true))) (k:bx F0 n E L (x.wp P Q)):bx F0 n E L ((Code.cond X x y).wp P Q):=AG hX (λ_=>k) (λh=>by cases h)
theorem Bb {y:Code} (hX:ev E X=some (.raw (.bool false))) (k:bx F0 n E L (y.wp P Q)):bx F0 n E L ((Code.cond X x y).wp P Q):=AG hX (λh=>by cases h) (λ_=>k)
theorem va {m:Nat} (hj:lZ J [(d,s)] E=true):∀t v,look ((d,s)::E) t=some v→look ((d,s)::J++E) t=some v:=by intro t v h;rw[bS] at h;rw[xP,bS];split at h;rename_i hk;rw[xN hk];exact h;rename_i hk;rw[xv hk,jk];(have:look [(d,s)] t=none:=by rw[bS,xv hk];rfl);rw[l5 hj this h];exact h
theorem B0 (m:Nat) {E1:List (Nat×SV)} (he:s'=s) (hj:lZ (E1.take m) [(d,s)] (E1.drop m)=true) (k:bx F0 n ((d,s)::E1.drop m) L X):bx F0 n ((d,s')::E1) L X:=by subst he;refine A8 (λt v h=>?_) k;have:=va (m:=m) hj t v h;rwa [xP,xn] at this
end
end Go.Sim
namespace Go.Sim
open Go
section
variable {P:Program} {ops:Array Oper} {Q:Exit→Act→World→Prop} {rest:List Oper} {F0:Fz} {n:Nat} {E:List (Nat×SV)} {L:List bJ}
variable {d:Nat} {op:Op} {ty:TypeId} {pos:String} {aft:Array Edge} {s:SV}
theorem Bm (h:∀F a,Env F a n E→∀w G,F≤G→St G w L→(execOp a.eval o).run P w= .ok (.value v) w):ea P n E L o (.raw v):=λF a hE=>⟨v,by simp only[SV.ok],λw ⟨G,hg,hS⟩=>by unfold Oper.quietAt;rw[h F a hE w G hg hS];exact⟨rfl,rfl⟩⟩
theorem CC {K:Kd α} {i:Int} (hb:rB r R b K0 x) (p:At K0 x off (bG m K) xs up) (hi:idx xs i=some z) (hT:P.underlying T=some (.array m e)) (hs:(P.info? e).map (·.size)=some K.n) (hX:ev E X=some (.raw (.pointer (some ⟨b,off,none⟩)))) (hI:ev E I=some (.raw (.int q i))):ea P n E (r::L) ⟨some d,.indexAddr T X I,ty,pos,aft,none⟩ (.raw (.pointer (some ⟨b,off+i.toNat*K.n,none⟩))):=Bm λF a hE w G hg hS=>by obtain⟨h,hh,hon⟩:=hS.head;obtain⟨cs,post,e,rfl,c,_⟩:=hb.out hh;obtain⟨_,hm,_⟩:=p.get c;obtain⟨h0,h1,_⟩:=eO hi;simp[execOp,hE.raw hX,hE.raw hI,ji hT hs h0 (by omega) (p:=⟨b,off,none⟩) rfl w]
theorem Aa {K:Kd α} {xs:List α} {i:Int} (hx:idx xs i=some x) (hT:P.underlying T=some (.slice e)) (hs:(P.info? e).map (·.size)=some K.n) (hX:ev E X=some (.raw v)) (hI:ev E I=some (.raw (.int q i))):ea P n E (.own K v e' xs::L) ⟨some d,.indexAddr T X I,ty,pos,aft,none⟩ (.raw (.pointer (some ⟨tZ v,0+i.toNat*K.n,none⟩))):=Bm λF a hE w G hg hS=>by obtain⟨b,h1,_⟩:=eO hx;obtain⟨f,hf,_⟩:=hS;have hv:=hE.raw hX;rcases hf with⟨rfl,rfl,_⟩|⟨g,cap,cur,rfl,_⟩;simp at h1;omega;have hr:=jh (P:=P) hT hs (p:=⟨g,0,none⟩) (m:=xs.length) (c:=cap) (q:=q) b h1 rfl w;simp[execOp,hv,hE.raw hI,hr,tZ]
theorem Ah {xs:List α} (ht:P.underlying t=some (.slice e)) (hX:ev E X=some (.raw v)):ea P n E (.own K v e' xs::L) ⟨some d,.call ⟨.builtin .len,#[X],#[t]⟩,ty,pos,aft,none⟩ (.raw (.int .i64 xs.length)):=Bm λF a hE w G hg hS=>by obtain⟨f,hf,_⟩:=hS;have hv:=hE.raw hX;rcases hf with⟨rfl,rfl,_⟩|⟨g,cap,cur,rfl,_⟩<;>simp[execOp,resolve,invoke,builtin,Builtin.len_,wo ht,hv,goInt]
theorem AP {p:Option Addr} (hg:P.underlying T=some (.pointer T')) (hb:b= .eql∨b= .neq) (hX:ev E X=some (.raw (.pointer p))):ea P n E L ⟨some d,.binOp b T X (.const (.pointer none)) u,ty,pos,aft,none⟩ (.raw (.bool (if b= .eql then p.isNone else p.isSome))):=Ac λF a hE w=>by have h2:a.eval (.const (.pointer none))= .pointer none:=rfl;(have c:P.underlying T=some (.pointer (P.pointee T)):=by simp[Program.pointee,hg]);rw[execOp];simp only[hE.raw hX,h2,eqGuard];rcases hb with rfl|rfl;simp[run_eql_pointer_nil w T p c];cases p<;>simp[run_neq_pointer_nil w T _ c]
theorem zx (hX:ev E X=some (.raw v)) (hv:∃p,v= .pointer (some p)):ea P n E L ⟨some d,.nilCheck X,ty,pos,aft,none⟩ (.raw v):=Ac λF a hE w=>by obtain⟨p,rfl⟩:=hv;simp[execOp,hE.raw hX]
def DU (F:Fz) {β γ:Type} (x:β) (x':Value→γ):List (en β)→List (en γ)→Prop|[],[]=>True|f::fs,f'::a=>(∀v cs,f.K.rd F cs (f.get x)→f'.K.rd F cs (f'.get (x' v)))∧DU F x x' fs a|_,_=>False
def EP (F:Fz) {β γ:Type} (x:β) (x':Value→γ):List (en β)→List (en γ)→Nat→Prop|[],_,_=>False|_,[],_=>False|f::fs,f'::a,0=>(∀cs,f.K.rd F cs (f.get x)→∃v:Value,f'.K.rd F cs (f'.get (x' v))∧v.oneCell'=true)∧DU F x x' fs a|f::fs,f'::a,i+1=>(∀v cs,f.K.rd F cs (f.get x)→f'.K.rd F cs (f'.get (x' v)))∧EP F x x' fs a i
theorem DU.rd:∀{fs:List (en β)} {fs':List (en γ)} {cs:List Value},DU F x x' fs fs'→lk F fs cs x→lk F fs' cs (x' v)|[],[],_,_,h=>h|f::fs,f'::fs',_,⟨h1,h2⟩,⟨c,d,e,a,b⟩=>⟨c,d,e,h1 v c a,DU.rd h2 b⟩|[],_::_,_,h,_=>h.elim|_::_,[],_,h,_=>h.elim
theorem EP.rd:∀{fs:List (en β)} {fs':List (en γ)} {i:Nat} {cs:List Value},EP F x x' fs fs' i→lk F fs cs x→∃v:Value,lk F fs' cs (x' v)∧v.oneCell'=true|[],_,_,_,h,_=>h.elim|_::_,[],_,_,h,_=>h.elim|f::fs,f'::fs',0,_,⟨h1,h2⟩,⟨c,d,e,a,b⟩=>by obtain⟨v,h3,h4⟩:=h1 c a;exact⟨v,⟨c,d,e,h3,DU.rd h2 b⟩,h4⟩|f::fs,f'::fs',i+1,_,⟨h1,h2⟩,⟨c,d,e,a,b⟩=>by obtain⟨v,h3,h4⟩:=EP.rd h2 b;exact⟨v,⟨c,d,e,h1 v c a,h3⟩,h4⟩
theorem FB {s:ByteArray} (h:s.data.toList.map (λb=>(b.toNat:Int))=x):eH (.raw (.string s)) kG x:=λF v hv=>by simp only[SV.ok] at hv;subst hv;exact⟨[.string s],⟨s,rfl,h.symm⟩,rfl⟩
theorem kg (h:kG.val F v x):∃s:ByteArray,v= .string s∧x=s.data.toList.map (λb=>(b.toNat:Int)):=by obtain⟨cs,⟨s,rfl,hx⟩,e⟩:=h;exact⟨s,e,hx⟩
theorem rk {a b:ByteArray} (h:a.data.toList.map (λb=>(b.toNat:Int))=b.data.toList.map (λb=>(b.toNat:Int))):a=b:=by(have key:∀l m:List UInt8,l.map (λb=>(b.toNat:Int))=m.map (λb=>(b.toNat:Int))→l=m:=by intro l;induction l with|nil=>(intro m h;cases m with|nil=>rfl|cons _ _=>cases h)|cons x l ih=>intro m h;cases m with|nil=>cases h|cons y m=>simp only[wS,List.cons.injEq] at h;rw[ih m h.2,UInt8.toNat_inj.1 (by omega:x.toNat=y.toNat)]);have:=key _ _ h;cases a;cases b;simp only[ByteArray.mk.injEq] at*;exact Array.toList_inj.1 this
theorem Ay {b:BinOp} (hT:P.underlying T=some .string) (hX:ev E X=some s1) (h1:eH s1 kG x) (hY:ev E Y=some s2) (h2:eH s2 kG y) (hb:b= .eql∨b= .neq):ea P n E L ⟨some d,.binOp b T X Y u,ty,pos,aft,none⟩ (.raw (.bool (if b= .eql then x==y else x != y))):=Ac λF a hE w=>by obtain⟨c,e1,rfl⟩:=kg (h1 F _ (hE.eval hX));obtain⟨e,e2,rfl⟩:=kg (h2 F _ (hE.eval hY));(have hq:((c.data.toList.map λb=>(b.toNat:Int))==(e.data.toList.map λb=>(b.toNat:Int)))=(c.toList==e.toList):=by rw[wY,yR,yR];simp only[yb];exact⟨λh=>by rw[rk h],λh=>by rw[h]⟩);rcases hb with rfl|rfl;simp only[zr,hq];rw[execOp];simp only[e1,e2,eqGuard];simp[binOp_string_eql];simp only[reduceCtorEq,if_false,bne,hq];rw[execOp];simp only[e1,e2,eqGuard];simp[binOp_string_neq]
end
end Go.Sim
namespace Go.Sim
open Go
def fQ:List Oper→List SV→List (Nat×SV)→List (Nat×SV)|o::l,s::sv,E=>(match o.dst with|some d=>fQ l sv ((d,s)::E)|none=>fQ l sv E)|_,_,E=>E
def vg (R:List (List Nat)) (g:List Nat) (lg:List Oper) (k t:Nat):Bool:=(List.range g.length).all λq=>match lg[q]? with|some o=>(match o.dst with|some d=> !(Nat.beq d t)||(cond (Nat.blt q k) (dH (g.getD q 0) (R.getD (g.getD k 0) [])) (cond (Nat.beq q k) true (dH (g.getD k 0) (R.getD (g.getD q 0) []))))|none=>true)|none=>true
def ly (l:List Oper) (D g:List Nat) (p:List (List Nat)):Bool:=g.all (λi=>Nat.blt i l.length)&&g.all (λi=> !dH i D)&&jo g&&jo ((pick l g).filterMap (·.dst))&&(List.range l.length).all (λj=>dH j D||dH j g||g.all (λi=>dH i ((gw l []).getD j [])))&&(List.range g.length).all λk=>match(pick l g)[k]?,p[k]? with|some o,some us=> !pP o.op&&(dD o).all (λe=>Nat.blt e l.length&&(dH e D||dH e (g.take k)))&&us.all (λt=>vg (gw l []) g (pick l g) k t)|_,_=>false
section
variable {P:Program} {ops:Array Oper} {Q:Exit→Act→World→Prop} {rest:List Oper} {F0:Fz} {n:Nat} {E:List (Nat×SV)} {L:List bJ}
variable {d:Nat} {op:Op} {ty:TypeId} {pos:String} {aft:Array Edge} {s:SV} {Lf:List bJ→List bJ}
theorem od {l:List Oper} {g:List Nat} (h:ly l D g p=true):GB l D g p:=by simp only[ly,wq,w4] at h;obtain⟨⟨⟨⟨⟨h1,h2⟩,h3⟩,h4⟩,h5⟩,h6⟩:=h;(have a:∀i∈g,i<l.length:=λi hi=>by simpa[xr] using h1 i hi);refine⟨a,λi hi hm=>?_,fB h3,fB h4,λj hj=>?_,λk i hk=>?_⟩;have:=h2 i hi;rw[bw.2 hm] at this;cases this;have:=h5 j (xy.2 hj);simp only[xV,w4] at this;rcases this with(h|h)|h;exact .inl (bw.1 h);exact .inr (.inl (bw.1 h));exact .inr (.inr λi hi=>by have:=bw.1 (h i hi);simpa[List.getD] using this);have d:k<g.length:=(we.1 hk).1;have f:i<l.length:=a i (ww hk);have c:=gr a k i hk;(have ho:l[i]? =some l[i]:=by simp[f]);have h7:=h6 k (xy.2 d);rw[c,ho] at h7;cases hp:p[k]? with|none=>rw[hp] at h7;cases h7|some us=>rw[hp] at h7;simp only[wq,w4,Bool.not_eq_true'] at h7;refine⟨l[i],us,ho,by rw[c,ho],rfl,h7.1.1,λe he=>?_,λt ht q j o' hq hj hd=>?_⟩;have:=h7.1.2 e he;simp only[wq,xV,xr] at this;exact⟨this.1,this.2.imp bw.1 bw.1⟩;have h8:=h7.2 t ht;simp only[vg,w4] at h8;have m:q<g.length:=(we.1 hq).1;have h9:=h8 q (xy.2 m);rw[gr a q j hq,hj] at h9;(have gk:g.getD k 0=i:=by simp[List.getD,hk]);(have gq:g.getD q 0=j:=by simp[List.getD,hq]);simp only[hd,Nat.beq_refl,yV,Bool.false_or,gk,gq] at h9;constructor;intro b;(have:Nat.blt q k=true:=by simpa[xr] using b);rw[this,wd] at h9;simpa[List.getD] using bw.1 h9;intro b;(have hb:Nat.blt q k=false:=by cases hb:Nat.blt q k with|false=>rfl|true=>(have:q<k:=by simpa[xr] using hb);omega);(have n:Nat.beq q k=false:=by cases hb:Nat.beq q k with|false=>rfl|true=>have:=wW hb;omega);rw[hb,wc,n,wc] at h9;simpa[List.getD] using bw.1 h9
theorem iu:∀{l:List Oper} {sv:List SV} {E:List (Nat×SV)},(∀o∈l,o.dst≠some t)→look (fQ l sv E) t=look E t|[],sv,E,_=>by simp[fQ]|o::l,[],E,_=>by simp[fQ]|o::l,s::sv,E,h=>by have ih:=λE'=>iu (t:=t) (l:=l) (sv:=sv) (E:=E') (λq hq=>h q (by simp[hq]));have ho:=h o (by simp);rw[fQ];cases hd:o.dst with|none=>exact ih E|some d=>simp only[];rw[ih,bS,xv];intro e;rw[hd] at ho;exact ho (by rw[e])
theorem mh:∀{l:List Oper} {sv:List SV} {E:List (Nat×SV)} {j:Nat} {o:Oper},(l.filterMap (·.dst)).Nodup→l[j]? =some o→o.dst=some t→sv[j]? =some s→look (fQ l sv E) t=some s|[],sv,E,j,o,_,hj,_,_=>by simp at hj|q::l,[],E,j,o,_,_,_,hs=>by simp at hs|q::l,s0::sv,E,j,o,hn,hj,ht,hs=>by cases j with|zero=>simp at hj hs;subst hj;subst hs;rw[yn ht,yk] at hn;rw[fQ,ht];simp only[];rw[iu (λx hx e=>hn.1 (yq.2 ⟨x,hx,e⟩)),bS];simp|succ j=>have a:(l.filterMap (·.dst)).Nodup:=hn.sublist ((List.sublist_cons_self q l).filterMap _);rw[fQ];cases hd:q.dst<;>exact mh a (by simpa using hj) ht (by simpa using hs)
theorem iW (a:∀r T,(r::Lf T).Perm (Lf (r::T))):∀(X:List bJ) (T:List bJ),(X++Lf T).Perm (Lf (X++T))|[],T=>List.Perm.refl _|r::X,T=>(List.Perm.cons r (iW a X T)).trans (a r _)
theorem vL (a:∀r T,(r::Lf T).Perm (Lf (r::T))) {X:List bJ} (h:X.Perm Y) (T:List bJ):(Lf (X++T)).Perm (Lf (Y++T)):=(iW a X T).symm.trans ((h.append_right _).trans (iW a Y T))
def Dw:Value→Nat| .pointer (some p)=>p.block|_=>0
theorem Gr:∀r T,(r::(λT:List bJ=>T) T).Perm ((λT:List bJ=>T) (r::T)):=λ_ _=>List.Perm.refl _
theorem FL:∀r T,(r::(λT:List bJ=>r1::T) T).Perm ((λT:List bJ=>r1::T) (r::T)):=λ_ _=>List.Perm.swap _ _ _
theorem Fm:∀r T,(r::(λT:List bJ=>r1::r2::T) T).Perm ((λT:List bJ=>r1::r2::T) (r::T)):=λ_ _=>(List.Perm.swap _ _ _).trans (List.Perm.cons _ (List.Perm.swap _ _ _))
theorem GH:∀r T,(r::(λT:List bJ=>r1::r2::r3::T) T).Perm ((λT:List bJ=>r1::r2::r3::T) (r::T)):=λ_ _=>(List.Perm.swap _ _ _).trans (List.Perm.cons _ ((List.Perm.swap _ _ _).trans (List.Perm.cons _ (List.Perm.swap _ _ _))))
end
end Go.Sim
namespace Go.Sim
open Go
section
variable {P:Program} {ops:Array Oper} {Q:Exit→Act→World→Prop} {rest:List Oper} {F0:Fz} {n:Nat} {E:List (Nat×SV)} {L:List bJ}
variable {d:Nat} {op:Op} {ty:TypeId} {pos:String} {aft:Array Edge} {s:SV}
theorem CK {α:Type} [BEq α] {T:TypeId} {K:Kd α} {a D:Nat} (h:uH P T K a) (b:Nat.ble a D=true):uH P T K D:=⟨λ{d F v u x y w} h1 h2=>by have:=xo b;(have e:d+D=(d+(D - a))+a:=by omega);rw[e];exact h.eq h1 h2⟩
theorem uH.str (hT:P.underlying T=some .string):uH P T kG 1:=⟨λ{d F v u x y w} h1 h2=>by obtain⟨s1,e1,rfl⟩:=kg h1;obtain⟨s2,e2,rfl⟩:=kg h2;subst e1;subst e2;(have hq:((s1.data.toList.map λb=>(b.toNat:Int))==(s2.data.toList.map λb=>(b.toNat:Int)))=(s1.toList==s2.toList):=by rw[wY,yR,yR];simp only[yb];exact⟨λh=>by rw[rk h],λh=>by rw[h]⟩);rw[hq];exact run_equalIn_string w d T s1 s2 hT⟩
def DB (P:Program) (D:Nat) {β:Type}:List Field→List (en β)→Nat→(β→β→Bool)→Prop
 |[],[],_,q=>∀x y,q x y=true
 | f :: ff, k :: fs, o, q => f.name ≠ "_" ∧ f.offset = o ∧ KT P f.type k.K ∧ ∃ (i : BEq k.α), uH P f.type k.K D ∧ ∃ q', (∀ x y, q x y = (k.get x == k.get y && q' x y)) ∧ DB P D ff fs (o + k.K.n) q'
 |_,_,_,_=>False
theorem pW {D d:Nat} {cs ds:List Value}:∀{ff:List Field} {fs:List (en β)} {o:Nat} {q:β→β→Bool},DB P D ff fs o q→o+nF fs=cs.length→o+nF fs=ds.length→lk F fs (cs.drop o) x→lk F fs (ds.drop o) y→(Op.eqFields (d+D) cs.toArray ds.toArray ff).run P w= .ok (q x y) w|[],[],o,q,h,_,_,_,_=>by simp[Op.eqFields,h x y]|f::ff,k::fs,o,q,⟨h1,h2,h3,i,h4,q',h5,h6⟩,l1,l2,⟨c1,d1,e1,a1,b1⟩,⟨c2,d2,e2,a2,b2⟩=>(by subst h2;simp only[nF] at l1 l2;have p1:=jm h3 cs.toArray f.offset (by simp;omega) w;have p2:=jm h3 ds.toArray f.offset (by simp;omega) w;(have t1:(cs.drop f.offset).take k.K.n=c1:=by rw[e1,←k.K.len a1,xl]);(have t2:(ds.drop f.offset).take k.K.n=c2:=by rw[e2,←k.K.len a2,xl]);simp only[t1,t2] at p1 p2;have hq:=h4.eq (d:=d) (w:=w) ⟨c1,a1,rfl⟩ ⟨c2,a2,rfl⟩;(have e3:cs.drop (f.offset+k.K.n)=d1:=by rw[←wU,e1,←k.K.len a1,yM]);(have e4:ds.drop (f.offset+k.K.n)=d2:=by rw[←wU,e2,←k.K.len a2,yM]);have ih:=pW (cs:=cs) (ds:=ds) h6 (by omega) (by omega) (by rw[e3];exact b1) (by rw[e4];exact b2) (d:=d) (w:=w);rw[h5];simp only[Op.eqFields,xN h1,wv,p1,p2,hq,wm];cases a:(k.get x==k.get y) with|false=>simp|true=>simp only[yV,Bool.false_eq_true,if_false,yT];exact ih)|[],_::_,_,_,h,_,_,_,_=>h.elim|_::_,[],_,_,h,_,_,_,_=>h.elim
theorem uH.st {β:Type} [BEq β] {T:TypeId} {fs:List (en β)} {ff:Array Field} {D:Nat} (hT:P.underlying T=some (.struct ff)) (hp:P.stoodInHeld T=false) (h:DB P D ff.toList fs 0 (λx y=>x==y)):uH P T (h_ fs) (D+1):=⟨λ{d F v u x y w} h1 h2=>by obtain⟨e1,r1⟩:=ij h1 rfl;obtain⟨e2,r2⟩:=ij h2 rfl;(have hf:P.fieldsOf T=ff:=by simp[Program.fieldsOf,hT]);rw[e1,e2,show d+(D+1)=(d+D)+1 by omega,run_equalIn_struct w (d+D) T _ _ (by rw[hf];exact hT) hp,hf];exact pW h (by rw[wL];exact((h_ fs).len r1).symm) (by rw[wL];exact((h_ fs).len r2).symm) (by rw[xk];exact r1) (by rw[xk];exact r2)⟩
inductive zA:List SV→List SV→Prop where
 |nil:zA [] []
 |sm {x:SV} {l l':List SV} (r:zA l l'):zA (x::l) (x::l')
 |rd {α:Type} {K:Kd α} {x:α} {s0:SV} {l l':List SV} (h:eH s0 K x) (r:zA l l'):zA (s0::l) (.val K x::l')
theorem zA.oks:∀{l l':List SV} {vs:List Value},zA l l'→SV.oks F vs l→SV.oks F vs l'|_,_,[],.nil,h=>h|_,_,_::_,.nil,h=>by simp only[SV.oks] at h|_,_,[],.sm r,h=>by simp only[SV.oks] at h|_,_,_::_,.sm r,h=>by simp only[SV.oks] at h⊢;exact⟨h.1,zA.oks r h.2⟩|_,_,[],.rd q r,h=>by simp only[SV.oks] at h|_,_,_::_,.rd q r,h=>by simp only[SV.oks] at h⊢;exact⟨by simp only[SV.ok];exact q _ _ h.1,zA.oks r h.2⟩
theorem BS (c:zA l l') (h:Ok P f l' L s L'):Ok P f l L s L':=λF w vs hv hS=>h F w vs (c.oks hv) hS
theorem CF {f:FuncId} {l l':List SV} {L:List bJ} {C:Type} {s:C→SV} {L':C→List bJ} (c:zA l l') (h:vI P f l' L s L'):vI P f l L s L':=λF w vs hv hS=>h F w vs (c.oks hv) hS
end
end Go.Sim
namespace Go.Sim
open Go
section
variable {P:Program} {ops:Array Oper} {Q:Exit→Act→World→Prop} {rest:List Oper} {F0:Fz} {n:Nat} {E:List (Nat×SV)} {L:List bJ}
variable {d:Nat} {op:Op} {ty:TypeId} {pos:String} {aft:Array Edge} {s:SV}
def cA (xs:List Int):List Int:=xs.map λn=>((UInt8.ofNat n.toNat).toNat:Int)
theorem nd:∀(xs:List Int) (s:ByteArray),((xs.foldl (λr n=>r.push (UInt8.ofNat n.toNat)) s).data.toList.map λb=>(b.toNat:Int))=(s.data.toList.map λb=>(b.toNat:Int))++cA xs|[],s=>by simp[cA]|x::xs,s=>by simp only[zh];rw[nd xs];simp[cA,ByteArray.push]
theorem vc {F:Fz} {w:World} {xs:List Int} (hv:(cI (bB .u8)).val F v xs) (hw:∀b o,F.blk b=some o→w.heap[b]? =some o):(Conv.bytesToString v).run P w= .ok (.string (xs.foldl (λr n=>r.push (UInt8.ofNat n.toNat)) ByteArray.empty)) w:=by obtain⟨cs,⟨a,cap,rfl,hcap,r⟩,rfl⟩:=hv;cases a with|none=>(have:xs=[]:=by rcases r with r|⟨p,_,_,_,h,_⟩;exact wR r;cases h);subst this;simp[pB,cI,Conv.bytesToString]|some p=>refine run_bytesToString w p xs.length cap xs ?_;have:=run_loadCells_list (P:=P) w p (xs.map (Value.int .u8)) λj v hj=>?_;simpa using this;rw[List.getElem?_map] at hj;obtain⟨x,hx,rfl⟩:=wN.1 hj;rcases r with r|⟨q,c,e,fr,hq,hp,hb,hle,hrd⟩;have:=wR r;subst this;simp at hx;cases hq;obtain⟨b,o,sp⟩:=p;simp only at hp hb hle;subst hp;rw[wP,zb w b (o+j) c e fr (hw _ _ hb)];have h1:=pR hrd hx;(have hjl:j<xs.length*(bB .u8).n:=by have:=(we.1 hx).1;simp[bB];omega);rw[wu hjl,wT] at h1;simpa using h1
theorem Af {xs:List Int} (hT:P.underlying T=some (.slice e)) (he:P.underlying e=some (.int .u8)) (hU:P.underlying U=some .string) (hX:ev E X=some s) (hr:eH s (cI (bB .u8)) xs):ea P n E L ⟨some d,.convert T U X,ty,pos,aft,none⟩ (.val kG (cA xs)):=λF a hE=>by have hv:=hr F _ (hE.eval hX);refine⟨.string (xs.foldl (λr n=>r.push (UInt8.ofNat n.toNat)) ByteArray.empty),by simp only[SV.ok];exact⟨[_],⟨_,rfl,by rw[nd];rfl⟩,rfl⟩,λw ⟨G,hg,hS⟩=>?_⟩;have hrun:=vc (P:=P) (hv.mono hg) hS.on.blk;obtain⟨cs,⟨ad,cap,rfl,_⟩,hval⟩:=hv;have hval:a.eval X= .slice ad xs.length cap:=hval;unfold Oper.quietAt;rw[hval] at hrun;(have hc:(convert T U (.slice ad xs.length cap)).run P w= .ok (.string (xs.foldl (λr n=>r.push (UInt8.ofNat n.toNat)) ByteArray.empty)) w:=by rw[run_convert_bytes_string w T U e ad _ cap hT he hU,hrun]);simp[execOp,hval,hc,Oper.quietUpon]
theorem t5 {w:World} {c:Array Value} (hb:w.heap[g]? =some (.cells c e (0,0))) (o:Nat):∃w',(markStringish ⟨g,o,none⟩).run P w= .ok () w'∧w'.heap[g]? =some (.cells c e (c.size,c.size+1))∧yG w w' (cD.one g (.cells c e (0,0))):=by have d:=fA hb;(have a:w.shape? g=some (e,c.size):=by simp[World.shape?,hb]);refine⟨w.freeze ⟨g,c.size,none⟩ 1,by simp[markStringish,a],?_,⟨rfl,rfl,rfl,λk hk hn=>?_⟩⟩;simp[World.freeze,Array.getElem?_modify,hb];(have b:g≠k:=λh=>by subst h;rw[zN] at hn;cases hn);simp[World.freeze,Array.getElem?_modify,b]
theorem A3 {K:Kd α} {xs:List α} (hT:P.underlying T=some (.slice e)) (he:P.underlying e=some (.int .u8)) (h0:0<xs.length) (hX:ev E X=some (.raw v)) (hd:Nat.blt d n=true) (k:bx F0 n ((d,.val (cI K) xs)::E) L (wpList P t Q p)):bx F0 n E (.own K v e' xs::L) (wpList P t Q (⟨some d,.convert T T X,ty,pos,aft,none⟩::p)):=zQ rfl λF a w u hE hS=>by have hv:=hE.raw hX;obtain⟨h,hh,hon⟩:=hS.head;rcases hh with⟨rfl,rfl,_⟩|⟨g,cap,b,rfl,rfl,h3,h4,h5,h6⟩;simp at h0;have hb:=hon g _ (zN _ _);obtain⟨w',hrun,x,hc⟩:=t5 (P:=P) hb 0;let o':Obj:= .cells b e' (b.size,b.size+1);(have y:F.blk g=none:=by obtain⟨h2,c,r,hs2⟩:=hS;(have z:h2 g≠none:=by rcases c with⟨q,_⟩|⟨g',cap',cur',q,rfl,_⟩;cases q;simp only[Value.slice.injEq,Option.some.injEq,Addr.mk.injEq,ze,true_and] at q;obtain⟨rfl,_⟩:=q;rw[zN];simp);exact r g z);(have A:St F w' (.any (λq=>q=cD.one g o')::L):=hS.turn λh2 c s=>by rcases c with⟨q,_⟩|⟨g',cap',cur',q,rfl,_⟩;cases q;simp only[Value.slice.injEq,Option.some.injEq,Addr.mk.injEq,ze,true_and] at q;obtain⟨rfl,rfl⟩:=q;have l:=s g _ (zN _ _);rw[hb] at l;have hq:=Option.some.inj l;simp only[Obj.cells.injEq,ze,true_and] at hq;subst hq;refine⟨cD.one g o',rfl,hc,λk hk=> .inl ?_,λk o eo=>?_⟩;by_cases m:k=g;subst m;rw[zN];simp;exact absurd (AA _ m) hk;obtain⟨rfl,rfl⟩:=As eo;exact x);obtain⟨f,hf,hap1,i,hS2⟩:=A.freeze;have hf:f=cD.one g o':=hf;subst hf;(have j:(convert T T (.slice (some ⟨g,0,none⟩) xs.length cap)).run P w= .ok (.slice (some ⟨g,0,none⟩) xs.length cap) w':=by simp[convert,wo hT,wo he,hrun]);unfold Oper.wp;simp only[execOp,hv,wv,j,wm,wF,Oper.upon];refine k _ _ _ (Au u i) ((hE.mono i).put hd ?_) hS2;simp only[SV.ok];refine⟨[.slice (some ⟨g,0,none⟩) xs.length cap],⟨_,cap,rfl,h3,.inr ⟨⟨g,0,none⟩,b,e',(b.size,b.size+1),rfl,rfl,?_,?_,by simpa using h6.mono i⟩⟩,rfl⟩;simp only[Fz.add,y];exact zN _ _;have:xs.length*K.n≤cap*K.n:=wh _ h3;simp only;omega
end
end Go.Sim
namespace Go.Sim
open Go
theorem kL (m:Machine) (w:World) (t:Trace) (h:aloneAtReturn P m w t):leavingAtReturn P m w t:=⟨h.2.1,onlyLeaving_of_quiet h.1,h.2.2⟩
def kK (c:OpenClaim):OpenClaim:={c with leaving:=false}
theorem my {p:Pinned} {c:OpenClaim} (hag:c.again=false) (hst:c.start= .entering) (hs:c.stops=[]) (hl:c.leaving=true) (h:(kK c).holds p s):c.holds p s:=by obtain⟨h1,h2,h3,h4,h5,h6,h7,h8,f,fn,a1,a2,a3,a4,a5,a6,a7,a8,a9,b1,b2,b3,b4,b5,b6,b7,b8,b9,b10,b11,b12,L,c1,c2⟩:=h;refine⟨?_,h2,h3,h4,h5,h6,h7,h8,f,fn,a1,a2,a3,a4,a5,a6,a7,a8,a9,b1,b2,b3,b4,b5,b6,b7,b8,b9,b10,b11,b12,L,c1,λos w1 w2 H enc inj=>?_⟩;(have:(kK c).wf s=c.wf s:=by cases c;simp only at hag;subst hag;rfl);rw[←this];exact h1;have h9:=c2 os w1 w2 H enc inj;unfold OpenClaim.form at h9⊢;have e1:(kK c).start= .entering:=hst;have e2:(kK c).stops=[]:=hs;rw[e1,e2] at h9;rw[hst,hs];intro F;refine ReturnsInOpen.mono (λm w t h=>?_) (λ_ h=>h) (h9 F);have h:(kK c).atReturn p.checked.prog m w t:=h;unfold OpenClaim.atReturn at h⊢;rw[hl];exact kL m w t h
end Go.Sim
namespace Go.Sim
open Go
section
variable {P:Program} {ops:Array Oper} {Q:Exit→Act→World→Prop} {rest:List Oper} {F0:Fz} {n:Nat} {E:List (Nat×SV)} {L:List bJ}
variable {d:Nat} {op:Op} {ty:TypeId} {pos:String} {aft:Array Edge} {s:SV}
end
end Go.Sim
namespace Go.Sim
open Go
def DQ (h1 h2:cD):cD:=λb=>match h1 b with|some o=>some o|none=>h2 b
theorem rm (F:Fz) (h1 h2:cD):(F.add h1).add h2=F.add (DQ h1 h2):=by simp only[Fz.add,DQ,Fz.mk.injEq,ze];funext b;cases F.blk b with|some o=>simp|none=>cases h1 b<;>simp
theorem qP:DQ h1 h2 b≠none↔h1 b≠none∨h2 b≠none:=by unfold DQ;cases h1 b<;>simp
def yH (F:Fz):List bJ→cD→Prop|[],h=>h=cD.emp|r::rs,h=>∃h1 h2,r.holds F h1∧yH F rs h2∧(∀b,h2 b≠none→h1 b=none)∧h=DQ h1 h2
theorem Bn:∀{rs:List bJ} {F:Fz},gI G F w (rs++L)→∃h,yH G rs h∧oB F h∧gI G (F.add h) w L|[],F,hs=>⟨cD.emp,rfl,λb hb=>absurd rfl hb,by rw[Av];exact hs⟩|r::rs,F,⟨h1,a,b,c⟩=>by obtain⟨h2,x,y,z⟩:=Bn (rs:=rs) c;refine⟨DQ h1 h2,⟨h1,h2,a,x,λq hq=>(Ak.1 (y q hq)).2,rfl⟩,λq hq=>?_,by rw[←rm];exact z⟩;rcases qP.1 hq with h|h;exact b q h;exact(Ak.1 (y q h)).1
theorem Bc:∀{rs:List bJ} {F:Fz} {h:cD},yH G rs h→oB F h→gI G (F.add h) w L→gI G F w (rs++L)|[],F,h,e,_,hs=>by cases e;rw[Av] at hs;exact hs|r::rs,F,h,⟨h1,h2,a,x,y,e⟩,ha,hs=>by subst e;rw[←rm] at hs;refine⟨h1,a,λq hq=>ha q (qP.2 (.inl hq)),Bc (rs:=rs) x (λq hq=>Ak.2 ⟨ha q (qP.2 (.inr hq)),y q hq⟩) hs⟩
def ek {α:Type} (K:Kd α):Prop:=∀F G cs x,K.rd F cs x→K.rd G cs x
theorem jL {α:Type} {K:Kd α} (hK:ek K) {F G:Fz}:∀{xs:List α} {cs:List Value},bd K F cs xs→bd K G cs xs|[],_,h=>h|x::xs,cs,⟨c,d,e,h,r⟩=>⟨c,d,e,hK _ _ _ _ h,jL hK r⟩
theorem kh {α:Type} {K:Kd α} (hK:ek K) {F G:Fz} {v:Value} {e:TypeId} {xs:List α} {h:cD} (hh:(bJ.own K v e xs).holds F h):(bJ.own K v e xs).holds G h:=by rcases hh with hh|⟨g,cap,cur,a1,a2,a3,a4,a5,a6⟩;exact .inl hh;exact .inr ⟨g,cap,cur,a1,a2,a3,a4,a5,jL hK a6⟩
theorem ek.int:ek (bB k):=λ_ _ _ _ h=>h
theorem ek.raw:ek dK:=λ_ _ _ _ h=>h
theorem ek.arr {α:Type} {K:Kd α} {m:Nat} (h:ek K):ek (bG m K):=λ_ _ _ _ ⟨a,b⟩=>⟨a,jL h b⟩
theorem BU {f g:en β} (hf:ek f.K) (hg:ek g.K):ek (h_ [f,g]):=λF G cs x ⟨c,d,e,h,c2,d2,e2,h2,r⟩=>⟨c,d,e,hf _ _ _ _ h,c2,d2,e2,hg _ _ _ _ h2,r⟩
section
variable {β γ τ:Type} (KR:Kd γ) (KT:Kd τ) (mk:β→Value→γ) (tg:β→List τ) (TE TT:TypeId)
def m0 (xs:List β) (qs:List Value):List bJ:=List.zipWith (λx q=>bJ.own KT q TT (tg x)) xs qs
def ki (v:Value) (xs:List β):cD→Prop:=λh=>∃(F:Fz) (qs:List Value),qs.length=xs.length∧yH F (.own KR v TE (List.zipWith mk xs qs)::m0 KT tg TT xs qs) h
abbrev lb (v:Value) (xs:List β):bJ:= .any (ki KR KT mk tg TE TT v xs)
end
section
variable {P:Program} {ops:Array Oper} {Q:Exit→Act→World→Prop} {rest:List Oper} {F0:Fz} {n:Nat} {E:List (Nat×SV)} {L:List bJ}
variable {d:Nat} {op:Op} {ty:TypeId} {pos:String} {aft:Array Edge} {s:SV}
variable {β γ τ:Type} {KR:Kd γ} {KT:Kd τ} {mk:β→Value→γ} {tg:β→List τ} {TE TT:TypeId} {v:Value} {xs:List β}
theorem ne (hT:ek KT):∀{xs:List β} {qs:List Value} {h:cD},yH F (m0 KT tg TT xs qs) h→yH G (m0 KT tg TT xs qs) h|[],qs,h,hh=>(show h=cD.emp from hh)|_::_,[],h,hh=>(show h=cD.emp from hh)|x::xs,q::qs,h,⟨h1,h2,a,b,c,e⟩=>⟨h1,h2,kh hT a,ne hT (xs:=xs) (qs:=qs) b,c,e⟩
theorem St.manyOpen (hR:ek KR) (hT:ek KT) (hs:St F w (lb KR KT mk tg TE TT v xs::L)):∃qs,qs.length=xs.length∧St F w (.own KR v TE (List.zipWith mk xs qs)::(m0 KT tg TT xs qs++L)):=by obtain⟨h,⟨F',qs,hl,h1,h2,a,b,c,e⟩,hap,d⟩:=hs;exact⟨qs,hl,Bc (rs:= .own KR v TE (List.zipWith mk xs qs)::m0 KT tg TT xs qs) ⟨h1,h2,kh hR a,ne hT b,c,e⟩ hap d⟩
theorem AD {qs:List Value} (hl:qs.length=xs.length) (hs:St F w (.own KR v TE (List.zipWith mk xs qs)::(m0 KT tg TT xs qs++L))):St F w (lb KR KT mk tg TE TT v xs::L):=by obtain⟨h,hb,hap,hs'⟩:=Bn (rs:= .own KR v TE (List.zipWith mk xs qs)::m0 KT tg TT xs qs) hs;exact⟨h,⟨F,qs,hl,hb⟩,hap,hs'⟩
theorem Az (k:bx F0 n E (lb KR KT mk tg TE TT (.slice none 0 0) ([]:List β)::L) X):bx F0 n E L X:=λF a w h0 hE hS=>by refine k F a w h0 hE (AD (qs:=[]) rfl ?_);refine⟨cD.emp,.inl ⟨rfl,rfl,rfl⟩,λb hb=>absurd rfl hb,?_⟩;rw[Av];exact hS
theorem zip_push.{u} {ε:Type u} (f:β→Value→ε):∀{xs:List β} {qs:List Value} {x:β} {q:Value},qs.length=xs.length→List.zipWith f (xs++[x]) (qs++[q])=List.zipWith f xs qs++[f x q]|[],[],_,_,_=>rfl|x::xs,q::qs,y,p,h=>by simp only[xP,List.zipWith_cons_cons];rw[zip_push f (by simpa using h)]|[],_::_,_,_,h=>by simp at h|_::_,[],_,_,h=>by simp at h
theorem Bo {z:γ} {bytes:Nat} {t u:TypeId} {S V:Operand} {x:β} {q:Value} {zs:List β} (hR:ek KR) (g:ek KT) (hz:Go.Sim.app xs [x]=some zs) (hT:P.underlying t=some (.slice TE)) (hu:tB P u=true) (he:AT P TE KR z bytes) (hS:ev E S=some (.raw v)) (hV:ev E V=some s) (hr:Src P s KR [mk x q]) (hd:Nat.blt d n=true) (k:∀v',bx F0 n ((d,.raw v')::E) (lb KR KT mk tg TE TT v' zs::L) (wpList P h Q c)):bx F0 n E (lb KR KT mk tg TE TT v xs:: .own KT q TT (tg x)::L) (wpList P h Q (⟨some d,.call ⟨.builtin .append,#[S,V],#[t,u]⟩,ty,pos,aft,none⟩::c)):=λF a w h0 hE i=>by obtain⟨qs,hl,j⟩:=i.manyOpen hR g;obtain⟨b,rfl⟩:=jl hz;(have l:Go.Sim.app (List.zipWith mk xs qs) [mk x q]=some (List.zipWith mk xs qs++[mk x q]):=by(have f:(List.zipWith mk xs qs).length=xs.length:=by simp[hl]);have:=hz;simp only[Go.Sim.app];rw[xN];rw[f];simpa using b);refine Bk (L:=m0 KT tg TT xs qs++.own KT q TT (tg x)::L) l hT hu he hS hV hr hd (λv' F a w h0 hE m=>?_) F a w h0 hE j;refine k v' F a w h0 hE (AD (qs:=qs++[q]) (by simp[hl]) ?_);rw[zip_push mk hl];have e:m0 KT tg TT (xs++[x]) (qs++[q])=m0 KT tg TT xs qs++[.own KT q TT (tg x)]:=zip_push _ hl;rw[e];simpa using m
end
end Go.Sim
namespace Go.Sim
open Go
section
variable {P:Program} {ops:Array Oper} {Q:Exit→Act→World→Prop} {rest:List Oper} {F0:Fz} {n:Nat} {E:List (Nat×SV)} {L:List bJ}
variable {d:Nat} {op:Op} {ty:TypeId} {pos:String} {aft:Array Edge} {s:SV}
theorem Bt {β γ τ:Type} {KR:Kd γ} {KT:Kd τ} {mk:β→Value→γ} {tg:β→List τ} {TE TT e t:TypeId} {v:Value} {xs:List β} {X:Operand} (hR:ek KR) (hT:ek KT) (ht:P.underlying t=some (.slice e)) (hX:ev E X=some (.raw v)) (hd:Nat.blt d n=true) (k:bx F0 n ((d,.raw (.int .i64 xs.length))::E) (lb KR KT mk tg TE TT v xs::L) (wpList P f Q b)):bx F0 n E (lb KR KT mk tg TE TT v xs::L) (wpList P f Q (⟨some d,.call ⟨.builtin .len,#[X],#[t]⟩,ty,pos,aft,none⟩::b)):=λF a w h0 hE hS=>by obtain⟨qs,hl,g⟩:=hS.manyOpen hR hT;(have c:(List.zipWith mk xs qs).length=xs.length:=by simp[hl]);refine BZ (L:=m0 KT tg TT xs qs++L) ht hX hd (λF a w h0 hE h=>?_) F a w h0 hE g;rw[c] at hE;exact k F a w h0 hE (AD hl h)
theorem B1 (h:∀F w,St F w L→St F w L') (k:bx F0 n E L' X):bx F0 n E L X:=λF a w h0 hE hS=>k F a w h0 hE (h F w hS)
end
end Go.Sim
namespace Go.Sim
open Go
structure Tk where
 deps:List Nat
 res:(Nat→Value)→bJ
 ok:∀bs bs':Nat→Value,(∀k∈deps,bs k=bs' k)→res bs=res bs'
def EQ (r:bJ):Tk:=⟨[],λ_=>r,λ_ _ _=>rfl⟩
def EK (k:Nat) (r:Value→bJ):Tk:=⟨[k],λbs=>r (bs k),λ_ _ h=>by rw[h k (by simp)]⟩
structure Sk where
 deps:List Nat
 sv:(Nat→Value)→SV
 ok:∀bs bs':Nat→Value,(∀k∈deps,bs k=bs' k)→sv bs=sv bs'
def gC (r:SV):Sk:=⟨[],λ_=>r,λ_ _ _=>rfl⟩
def EM (k:Nat) (r:Value→SV):Sk:=⟨[k],λbs=>r (bs k),λ_ _ h=>by rw[h k (by simp)]⟩
structure mB where
 val:Sk
 used:List Nat
 outs:List (Nat×Tk)
 rds:List Nat:=[]
structure pA where
 id:Nat
 prod:Option Nat
 tk:Tk
def wE:List mB→Nat→List pA|[],_=>[]|it::r,j=>it.outs.map (λx=>⟨x.1,some j,x.2⟩)++wE r (j+1)
def eI (a:List (Nat×bJ)) (its:List mB):List pA:=a.map (λx=>⟨x.1,none,EQ x.2⟩)++wE its 0
def fv:List pA→Nat→Option pA|[],_=>none|t::r,i=>cond (Nat.beq t.id i) (some t) (fv r i)
def tH (tab:List pA):List Nat→(Nat→Value)→List bJ|[],_=>[]|i::r,bs=>match fv tab i with|some t=>t.tk.res bs::tH tab r bs|none=>tH tab r bs
def gt (tab:List pA):List Nat→(Nat→Value)→List (List bJ)|[],_=>[[]]|[i],bs=>[match fv tab i with|some t=>[t.tk.res bs]|none=>[]]|i::r,bs=>(match fv tab i with|some t=>[t.tk.res bs]|none=>[])::gt tab r bs
def mi:List mB→Nat→Nat→Option Nat|[],_,_=>none|it::r,j,i=>cond (dH i it.used) (some j) (mi r (j+1) i)
def gz (its:List mB):List Nat:=its.flatMap (·.used)
def v5:List pA→List Nat→(Nat→Value)→List bJ|[],_,_=>[]|t::r,us,bs=>cond (dH t.id us) (v5 r us bs) (t.tk.res bs::v5 r us bs)
def xK (bs:Nat→Value) (k:Nat) (v:Value):Nat→Value:=λq=>cond (Nat.beq q k) v (bs q)
theorem t6 (bs:Nat→Value) (v:Value) (h:q≠k):xK bs k v q=bs q:=by unfold xK;cases hb:Nat.beq q k with|false=>rfl|true=>exact absurd (wW hb) h
def vG (l:List Oper) (g:List Nat) (k j:Nat):Bool:=Nat.blt k g.length&&dH (g.getD k 0) ((gw l []).getD (g.getD j 0) [])
def kM (l:List Oper) (g:List Nat) (tab:List pA) (its:List mB) (us:List Nat) (k:Nat):Bool→Option Nat→List Nat→Bool|_,a,[]=>(match a with|some c=>vG l g k c|none=>true)|first,a,i::r=>match fv tab i with|some t=>(cond first (match t.prod with|some q=>vG l g q k|none=>true) (match t.prod,a with|some q,some c=>Nat.beq q c|_,_=>false))&& !dH i us&&kM l g tab its us k false (mi its 0 i) r|none=>false
def Dr (l:List Oper) (g:List Nat) (tab:List pA) (it:mB) (j:Nat):Bool:=it.used.all (λi=>match fv tab i with|some t=>(match t.prod with|some q=>vG l g q j|none=>true)|none=>false)&&it.outs.all (λx=>x.2.deps.all λk=>Nat.beq k j||vG l g k j)&&it.val.deps.all (λk=>Nat.beq k j||vG l g k j)
def mj (l:List Oper) (g:List Nat) (tab:List pA) (a:List mB):List mB→Nat→Bool|[],_=>true|it::r,j=>Dr l g tab it j&&(match it.rds with|[]=>true|rs=>kM l g tab a it.used j true none rs)&&mj l g tab a r (j+1)
def z8 (l:List Oper) (g:List Nat) (a:List (Nat×bJ)) (its:List mB):Bool:=jo ((eI a its).map (·.id))&&jo (gz its)&&mj l g (eI a its) its its 0
theorem jM:∀{its:List mB} {j k:Nat} {it:mB},mj l g tab a its j=true→its[k]? =some it→Dr l g tab it (j+k)=true∧(it.rds=[]∨kM l g tab a it.used (j+k) true none it.rds=true)|[],_,_,_,_,h=>by simp at h|it0::r,j,0,it,h,e=>(by simp at e;subst e;simp only[mj,wq] at h;refine⟨h.1.1,?_⟩;have h2:=h.1.2;cases hr:it0.rds with|nil=>exact .inl rfl|cons x xs=>rw[hr] at h2;exact .inr h2)|it0::r,j,k+1,it,h,e=>by simp only[mj,wq] at h;have:=jM (j:=j+1) (k:=k) h.2 (by simpa using e);rw[show j+(k+1)=j+1+k by omega];exact this
theorem mm:∀{its:List mB} {j:Nat},mi its j i=none→∀(q:Nat) (it:mB),its[q]? =some it→i∉it.used|[],_,_,q,it,h=>by simp at h|a::r,j,h,q,it,hq=>by rw[mi] at h;cases hm:dH i a.used with|true=>rw[hm] at h;cases h|false=>rw[hm,wc] at h;cases q with|zero=>simp at hq;subst hq;exact λhi=>by rw[bw.2 hi] at hm;cases hm|succ q=>exact mm h q it (by simpa using hq)
theorem mn:∀{its:List mB} {j:Nat},mi its j i=some c→∃q it,c=j+q∧its[q]? =some it∧i∈it.used|[],_,h=>by cases h|a::r,j,h=>by rw[mi] at h;cases hm:dH i a.used with|true=>rw[hm,wd] at h;cases h;exact⟨0,a,by omega,by simp,bw.1 hm⟩|false=>rw[hm,wc] at h;obtain⟨q,it,h1,h2,h3⟩:=mn h;exact⟨q+1,it,by omega,by simpa using h2,h3⟩
theorem jN {t:pA}:∀{tab:List pA},fv tab i=some t→t∈tab∧t.id=i|[],h=>by cases h|u::r,h=>by rw[fv] at h;cases hb:Nat.beq u.id i with|true=>rw[hb,wd] at h;cases h;exact⟨by simp,wW hb⟩|false=>rw[hb,wc] at h;have:=jN h;exact⟨by simp[this.1],this.2⟩
theorem kj {tab:List pA} (hn:(tab.map (·.id)).Nodup) {t:pA} (h:t∈tab):fv tab t.id=some t:=by induction tab with|nil=>cases h|cons u r ih=>rw[fv];rcases yc.1 h with rfl|h;rw[Nat.beq_refl];rfl;(have a:u.id≠t.id:=λe=>by simp only[wS,yk,xj] at hn;exact hn.1 ⟨t,h,e.symm⟩);(have:Nat.beq u.id t.id=false:=by cases hb:Nat.beq u.id t.id with|false=>rfl|true=>exact absurd (wW hb) a);rw[this,wc];exact ih (yk.1 (by simpa using hn)).2 h
theorem vM {tab:List pA} (hn:(tab.map (·.id)).Nodup) {t u:pA} (ht:t∈tab) (hu:u∈tab) (e:t.id=u.id):t=u:=by have h1:=kj hn ht;have h2:=kj hn hu;rw[e,h2] at h1;exact(Option.some.inj h1).symm
theorem iL:∀{its:List mB} {j:Nat},t∈wE its j↔∃k it x,its[k]? =some it∧x∈it.outs∧t=⟨x.1,some (j+k),x.2⟩|[],j=>by simp[wE]|it::r,j=>by simp only[wE,w6,xj,iL (its:=r) (j:=j+1)];constructor;rintro(⟨x,hx,rfl⟩|⟨k,it',x,h1,h2,rfl⟩);exact⟨0,it,x,by simp,hx,rfl⟩;exact⟨k+1,it',x,by simpa using h1,h2,by rw[show j+(k+1)=j+1+k by omega]⟩;rintro⟨k,it',x,h1,h2,rfl⟩;cases k with|zero=>simp at h1;subst h1;exact .inl ⟨x,h2,rfl⟩|succ k=>exact .inr ⟨k,it',x,by simpa using h1,h2,by rw[show j+(k+1)=j+1+k by omega]⟩
theorem pX:∀{tab:List pA},v5 tab us bs=(tab.filter (λt=> !dH t.id us)).map (λt=>t.tk.res bs)|[]=>rfl|t::r=>by rw[v5,List.filter_cons];cases dH t.id us<;>simp[pX (tab:=r)]
theorem pY:∀{us:List Nat},tH tab us bs=(us.filterMap (fv tab)).map (λt=>t.tk.res bs)|[]=>rfl|i::r=>by rw[tH,List.filterMap_cons];cases fv tab i<;>simp[pY (us:=r)]
theorem iX {k i:Nat} {it:mB} (h:its[k]? =some it) (hi:i∈it.used):i∈gz its:=List.mem_flatMap.2 ⟨it,ww h,hi⟩
theorem kN:∀{its:List mB} {j k i:Nat} {it a:mB},(gz its).Nodup→its[j]? =some it→its[k]? =some a→i∈it.used→i∈a.used→j=k|[],_,_,_,_,_,_,h,_,_,_=>by simp at h|b::r,j,k,i,it,a,hn,hj,hk,h1,h2=>by(have c:(b.used++gz r).Nodup:=by simpa[gz] using hn);obtain⟨n1,n2,n3⟩:=yx.1 c;cases j with|zero=>(simp at hj;subst hj;cases k with|zero=>rfl|succ k=>exact absurd rfl (n3 i h1 i (iX (by simpa using hk) h2)))|succ j=>cases k with|zero=>simp at hk;subst hk;exact absurd rfl (n3 i h2 i (iX (by simpa using hj) h1))|succ k=>have e:=kN (its:=r) (j:=j) (k:=k) n2 (by simpa using hj) (by simpa using hk) h1 h2;omega
theorem mo:∀{its:List mB} {k:Nat} {it:mB},(gz its).Nodup→its[k]? =some it→it.used.Nodup|[],_,_,_,h=>by simp at h|b::r,k,it,hn,h=>by(have a:(b.used++gz r).Nodup:=by simpa[gz] using hn);cases k with|zero=>simp at h;subst h;exact(yx.1 a).1|succ k=>exact mo (yx.1 a).2.1 (by simpa using h)
def jC (G:Fz) (n:Nat) (L:List bJ) (k:Nat) (bs:Nat→Value) (it:mB) (b:Option Nat):Act→World→Prop:=λa w=>∃H v,G≤H∧(match b with|some d=>∃u,a.tmps[d]? =some u∧(it.val.sv (xK bs k v)).ok H u|none=>True)∧St H w (it.outs.map (λx=>x.2.res (xK bs k v))++L)∧a.defers=[]
def Fc:Option Nat→SV→List (Nat×SV)→List (Nat×SV)|some d,s,E=>(d,s)::E|none,_,E=>E
def i_ (P:Program) (n:Nat) (tab:List pA) (Lf:List bJ→List bJ) (a:Array Oper) (F0:Fz) (bs:Nat→Value) (K:List (Nat×SV)→Prop):Nat→List mB→List (List Nat)→List Oper→List (Nat×SV)→Prop|j,it::its,us::p,o::l,E=>(∀R,R∈gt tab it.rds bs→∀G T,F0≤G→bx G n (eQ us E) (tH tab it.used bs++(R++Lf T)) (wpList P a (Exit.then (jC G n (R++Lf T) j bs it o.dst) QF) [o]))∧i_ P n tab Lf a F0 bs K (j+1) its p l (Fc o.dst (it.val.sv bs) E)|_,[],[],[],E=>K E|_,_,_,_,_=>False
section
variable {P:Program} {ops:Array Oper} {Q:Exit→Act→World→Prop} {rest:List Oper} {F0:Fz} {n:Nat} {E:List (Nat×SV)} {L:List bJ}
variable {d:Nat} {op:Op} {ty:TypeId} {pos:String} {aft:Array Edge} {s:SV} {Lf:List bJ→List bJ} {tab:List pA}
theorem pZ:∀{its:List mB} {p:List (List Nat)} {l:List Oper} {E:List (Nat×SV)} {j:Nat},i_ P n tab Lf a F0 bs K j its p l E→its.length=l.length∧K (fQ l (its.map (λit=>it.val.sv bs)) E)∧∀(i:Nat) o us it,l[i]? =some o→p[i]? =some us→its[i]? =some it→∀R,R∈gt tab it.rds bs→∀G T,F0≤G→bx G n (eQ us (fQ (l.take i) ((its.take i).map (λit=>it.val.sv bs)) E)) (tH tab it.used bs++(R++Lf T)) (wpList P a (Exit.then (jC G n (R++Lf T) (j+i) bs it o.dst) QF) [o])|[],[],[],E,j,h=>⟨rfl,by simpa[fQ,i_] using h,λi o us it hi=>by simp at hi⟩|it::its,us::p,o::l,E,j,h=>(by obtain⟨h1,h2⟩:=h;obtain⟨e1,e2,e3⟩:=pZ h2;refine⟨by simp[e1],?_,λi q b c hi hp hs=>?_⟩;rw[wS,fQ];(cases hd:o.dst with|none=>rw[hd] at e2;exact e2|some d=>rw[hd] at e2;exact e2);cases i with|zero=>simp at hi hp hs;subst hi;subst hp;subst hs;simpa[fQ] using h1|succ i=>have:=e3 i q b c (by simpa using hi) (by simpa using hp) (by simpa using hs);rw[List.take_succ_cons,List.take_succ_cons,wS,fQ,show j+(i+1)=j+1+i by omega];cases hd:o.dst with|none=>rw[hd] at this;exact this|some d=>rw[hd] at this;exact this)|[],_::_,_,_,_,h=>by simp[i_] at h|[],[],_::_,_,_,h=>by simp[i_] at h|_::_,[],_,_,_,h=>by simp[i_] at h|_::_,_::_,[],_,_,h=>by simp[i_] at h
theorem qa {o:Oper} {a:Act} {it:mB} (hi:ops[i]? =some o)
   (h:wpList P ops (Exit.then (jC G n L k bs it o.dst) QF) [o] a w) (hlt:∀d,o.dst=some d→d<a.tmps.size) (hdef:a.defers=[]):
   wpOp P ops Q i (λa' w'=>∃v x H,a'=a.put o.dst v∧G≤H∧(∀d,o.dst=some d→(it.val.sv (xK bs k x)).ok H v)∧St H w' (it.outs.map (λy=>y.2.res (xK bs k x))++L)) a w:=by
 have fin:∀v w',jC G n L k bs it o.dst (a.put o.dst v) w'→∃v' x H,a.put o.dst v=a.put o.dst v'∧G≤H∧(∀d,o.dst=some d→(it.val.sv (xK bs k x)).ok H v')∧St H w' (it.outs.map (λy=>y.2.res (xK bs k x))++L):=λv w' ⟨H,x,h1,h2,h3,_⟩=>by
   refine⟨v,x,H,rfl,h1,λd hd=>?_,h3⟩
   rw[hd] at h2
   obtain⟨u,hu,ho⟩:=h2
   simp only[Act.put] at hu
   rw[xb (hlt d hd)] at hu
   cases hu;exact ho
 unfold wpOp
 simp only[hi]
 unfold wpList at h
 split
 · rename_i hw
   rw[xN hw] at h
   refine .inl ?_
   rcases h with h|⟨_,hlets⟩
   case inr=>exact absurd hlets (λhl=>by simp[LetsOut,QF,Exit.then] at hl)
   unfold Oper.wp at*
   generalize (execOp a.eval o).run P w=r at*
   cases r with
   |ok nx w'=>
    cases nx<;>simp only[Oper.upon] at h⊢
    case value u=>exact fin _ _ h
    case skip=>exact fin _ _ h
    case defer dd=>
     obtain⟨H,x,h1,h2,h3,h4⟩:=h
     exfalso
     cases hd:o.dst<;>simp[Act.put,hd] at h4
    case enter f args=>
     refine Calls.mono h λe w'' he=>?_
     cases e with
     |returned u=>exact fin _ _ he
     |panicked c=>exact he.elim
     |outgrown=>obtain⟨_,_,x⟩:=he;exact x.elim
    case row row args=>exact Rows.mono h λu w'' he=>fin _ _ he
   |halt x w'=>
    cases x<;>simp only[Oper.upon] at h⊢<;>exact h.elim
 · rename_i hw
   rw[xv hw] at h
   exact fin _ _ h
def pJ (g:List Nat) (a:Array Bool) (q:Nat):Prop:=∃i,g[q]? =some i∧a.getD i false=true
def vX (tab:List pA) (its:List mB) (g:List Nat) (a:Array Bool) (t:pA):Prop:=t∈tab∧(∀q,t.prod=some q→pJ g a q)∧∀q it,its[q]? =some it→t.id∈it.used→¬pJ g a q
structure Er (F:Fz) (n:Nat) (tab:List pA) (Lf:List bJ→List bJ) (L0:List bJ) (l:List Oper) (D g:List Nat) (its:List mB) (E:List (Nat×SV)) (listed:Array Bool) (a:Act) (w:World):Prop where
 size:listed.size=l.length
 closed:∀j o,l[j]? =some o→listed.getD j false=true→∀e∈dD o,listed.getD e false=true
 dl:∀j∈D,j<l.length→listed.getD j false=true
 ex:∀j,j<l.length→listed.getD j false=true→j∈D∨j∈g
 st:∃G,∃bs:Nat→Value,∃ks:List pA,F≤G∧St G w (Lf (ks.map (λt=>t.tk.res bs)++L0))∧(ks.map (·.id)).Nodup∧(∀t,t∈ks↔vX tab its g listed t)∧a.defers=[]∧a.tmps.size=n∧
  (∀(k i:Nat) (o:Oper) (d:Nat) (it:mB),g[k]? =some i→l[i]? =some o→o.dst=some d→its[k]? =some it→listed.getD i false=true→∃v,a.tmps[d]? =some v∧(it.val.sv bs).ok G v)∧
  (∀(t:Nat) (s:SV),look E t=some s→(∀(i:Nat) (o:Oper),i∈g→l[i]? =some o→listed.getD i false=true→o.dst≠some t)→∃v,a.tmps[t]? =some v∧s.ok G v)
theorem fP {ks:List pA} (h:(ks.map (·.id)).Nodup):ks.Nodup:=(List.pairwise_map.1 h).imp λa e=>a (by rw[e])
set_option maxHeartbeats 1600000 in
theorem t8 {l:List Oper} {D g:List Nat} {p:List (List Nat)} {its:List mB} {ini:List (Nat×bJ)} {F:Fz} {L0:List bJ} (hLf:∀r T,(r::Lf T).Perm (Lf (r::T))) (hB:GB l D g p) (hits:its.length=(pick l g).length) (hT:z8 l g ini its=true)
  (hn:∀o∈pick l g,∀d,o.dst=some d→d<n)
  (hop:∀(bs:Nat→Value) (k:Nat) o us it,(pick l g)[k]? =some o→p[k]? =some us→its[k]? =some it→∀R,R∈gt (eI ini its) it.rds bs→∀G T,F≤G→bx G n (eQ us (fQ ((pick l g).take k) ((its.take k).map (λit=>it.val.sv bs)) E)) (tH (eI ini its) it.used bs++(R++Lf T)) (wpList P l.toArray (Exit.then (jC G n (R++Lf T) k bs it o.dst) QF) [o]))
  (hfin:∀(bs:Nat→Value) G a w,F≤G→Env G a n (fQ (pick l g) (its.map (λit=>it.val.sv bs)) E)→St G w (Lf (v5 (eI ini its) (gz its) bs++L0))→ir P Q l (g++D) a w):
  ∀(fuel:Nat) (listed:Array Bool) (a:Act) (w:World),vB listed≤fuel→Er F n (eI ini its) Lf L0 l D g its E listed a w→wpAny P .any l.toArray Q fuel listed a w:=by
 have hlen:=pU hB.lt
 simp only[z8,wq] at hT
 obtain⟨⟨hT1,hT2⟩,hT3⟩:=hT
 replace hT1:=fB hT1
 replace hT2:=fB hT2
 have hitB:∀{k:Nat} {it:mB},its[k]? =some it→Dr l g (eI ini its) it k=true:=λ{k it} h=>by have:=(jM hT3 h).1;rwa [wL] at this
 have hrdB:∀{k:Nat} {it:mB},its[k]? =some it→it.rds=[]∨kM l g (eI ini its) its it.used k true none it.rds=true:=λ{k it} h=>by have:=(jM hT3 h).2;rwa [wL] at this
 have befS:∀{k j:Nat},vG l g k j=true→k<g.length∧g.getD k 0∈((gw l [])[g.getD j 0]?).getD []:=λ{k j} h=>by
  simp only[vG,wq,xr] at h
  exact⟨h.1,by have:=bw.1 h.2;simpa[List.getD] using this⟩
 have lfp:∀{X Y:List bJ},X.Perm Y→(Lf X).Perm (Lf Y):=λ{X Y} h=>by
  have:=vL hLf h []
  simpa using this
 have atEnd:∀(fuel:Nat) (listed:Array Bool) (a:Act) (w:World),vB listed≤fuel→Er F n (eI ini its) Lf L0 l D g its E listed a w→(∀i∈g,listed.getD i false=true)→wpAny P .any l.toArray Q fuel listed a w:=by
  intro fuel listed a w hc inv all
  obtain⟨G,bs,ks,hg,hS,hnd,hks,hd,hsz,hA,hB'⟩:=inv.st
  have allL:∀q,q<g.length→pJ g listed q:=λq hq=>⟨g[q],by simp[hq],all _ (xQ hq)⟩
  have hkp:ks.Perm ((eI ini its).filter (λt=> !dH t.id (gz its))):=by
    refine(List.perm_ext_iff_of_nodup (fP hnd) ((fP hT1).filter _)).2 λt=>?_
    rw[hks,xU]
    constructor
    · rintro⟨h1,h2,h3⟩
      refine⟨h1,?_⟩
      cases hm:dH t.id (gz its) with
      |false=>rfl
      | true =>
        obtain⟨it,hit,hi⟩:=List.mem_flatMap.1 (bw.1 hm)
        obtain⟨q,hq⟩:=wV.1 hit
        have hql:=(we.1 hq).1
        exact absurd (allL q (by omega)) (h3 q it hq hi)
    · rintro⟨h1,h2⟩
      refine⟨h1,λq hq=>?_,λq it hq hi=>?_⟩
      · rcases w6.1 h1 with h|h
        · obtain⟨x,_,rfl⟩:=xj.1 h;cases hq
        · obtain⟨k,it,x,h4,h5,rfl⟩:=iL.1 h
          cases hq
          have:=(we.1 h4).1
          exact allL _ (by omega)
      · rw[bw.2 (iX hq hi)] at h2;cases h2
  have hS2:St G w (Lf (v5 (eI ini its) (gz its) bs++L0)):=hS.perm (lfp (by rw[pX];exact(hkp.map _).append_right _))
  refine hfin bs G a w hg ⟨hd,hsz,λt s e=>?_⟩ hS2 fuel listed hc ⟨inv.size,inv.closed,λj hj=>⟨λh=>?_,λh=>?_⟩⟩
  · by_cases hw:∃o∈pick l g,o.dst=some t
    · obtain⟨o,ho,hot⟩:=hw
      obtain⟨k,hk⟩:=wV.1 ho
      have hkl:k<(pick l g).length:=(we.1 hk).1
      have hkg:g[k]? =some g[k]:=by
        have:k<g.length:=by omega
        simp[this]
      have hki:k<its.length:=by omega
      have hik:its[k]? =some its[k]:=by simp[hki]
      rw[mh hB.dsts hk hot (show(its.map (λit=>it.val.sv bs))[k]? =some (its[k].val.sv bs) by simp[hki])] at e
      cases e
      have hl:=gr hB.lt k _ hkg
      exact hA k _ o t _ hkg (by rw[←hl];exact hk) hot hik (all _ (ww hkg))
    · rw[iu (λo ho e=>hw ⟨o,ho,e⟩)] at e
      refine hB' t s e λi o hi hl _ e'=>hw ⟨o,?_,e'⟩
      obtain⟨k,hk⟩:=wV.1 hi
      have:=gr hB.lt k i hk
      exact ww (this.trans hl)
  · rcases inv.ex j hj h with h|h
    · exact zc _ h
    · exact zg _ h
  · rcases w6.1 h with h|h
    · exact all j h
    · exact inv.dl j h hj
 intro fuel
 induction fuel with
 |zero=>
  intro listed a w hc inv
  refine atEnd 0 listed a w hc inv λi hi=>?_
  cases hl:listed.getD i false with
  |true=>rfl
  | false =>
    exfalso
    have hlt:i<listed.size:=by have:=hB.lt i hi;have:=inv.size;omega
    have hun:listed.getD i true=false:=by simp[hlt] at hl⊢;exact hl
    have:=iI hun;omega
 |succ fuel ih=>
  intro listed a w hc inv
  by_cases hall:∀i∈g,listed.getD i false=true
  · exact atEnd _ listed a w hc inv hall
  · have hex:∃k:Nat,∃i,g[k]? =some i∧listed.getD i false=false:=by
      refine Classical.byContradiction λhno=>hall λi hi=>?_
      obtain⟨k,hk⟩:=wV.1 hi
      cases hl:listed.getD i false with
      |true=>rfl
      |false=>exact absurd ⟨k,i,hk,hl⟩ hno
    have hready:∃i,i∈Region.ready .any l.toArray listed:=by
      obtain⟨k,i,hk,hl⟩:=hex
      induction k using Nat.strongRecOn generalizing i with
      | _ k ihk =>
        by_cases hbef:∃q,q<k∧∃j,g[q]? =some j∧listed.getD j false=false
        · obtain⟨q,hq,j,hj,hlj⟩:=hbef
          exact ihk q hq j hj hlj
        · obtain⟨o,us,ho,_,_,_,haf,_⟩:=hB.op k i hk
          have hil:i<l.length:=hB.lt i (ww hk)
          have hlt:i<listed.size:=by have:=inv.size;omega
          refine⟨i,zl.2 ⟨by simp[hlt] at hl⊢;exact hl,o,by simpa using ho,jp λe he=>?_⟩⟩
          obtain⟨h1,h2|h2⟩:=haf e he
          · exact inv.dl e h2 h1
          · obtain⟨q,hq⟩:=wV.1 h2
            have hqk:q<k:=by have:=(we.1 hq).1;simp at this;omega
            rw[wu hqk] at hq
            cases hle:listed.getD e false with
            |true=>rfl
            |false=>exact absurd ⟨q,hqk,e,hq,hle⟩ hbef
    refine⟨λh0=>(by obtain⟨i,hi⟩:=hready;rw[h0] at hi;cases hi),λi hi=>?_⟩
    obtain⟨hun,o,ho,haft⟩:=zl.1 hi
    have ho':l[i]? =some o:=by simpa using ho
    have hil:i<l.length:=(we.1 ho').1
    have hlist:=jI haft
    have hlt:i<listed.size:=by have:=inv.size;omega
    have hunf:listed.getD i false=false:=by simp[hlt] at hun⊢;exact hun
    have hiD:i∉D:=λh=>by rw[inv.dl i h hil] at hunf;cases hunf
    have hig:i∈g:=by
      rcases hB.others i hil with h|h|h
      · exact absurd h hiD
      · exact h
      · exact absurd (λj hj=>fg (λj=>listed.getD j false=true) inv.closed ho' hlist j (h j hj)) hall
    obtain⟨k,hk⟩:=wV.1 hig
    obtain⟨o2,us,ho2,hpk,hus,hsel,haf,hwr⟩:=hB.op k i hk
    rw[ho'] at ho2;cases ho2
    have hkl:k<(pick l g).length:=(we.1 hpk).1
    have hki:k<its.length:=by omega
    have hit:its[k]? =some its[k]:=by simp[hki]
    obtain⟨G,bs,ks,hg,hS,hnd,hks,hdf,hsz,hA,hB'⟩:=inv.st
    have hgk:g.getD k 0=i:=by simp[List.getD,hk]
    have uniq:∀q,g[q]? =some i→q=k:=λq hq=>by
      have e1:=(we.1 hq).2
      have e2:=(we.1 hk).2
      exact(List.getElem_inj hB.nodup).1 (e1.trans e2.symm)
    have hkun:¬pJ g listed k:=λ⟨j,h1,h2⟩=>by rw[hk] at h1;cases h1;rw[hunf] at h2;cases h2
    have bef_lst:∀{q:Nat},vG l g q k=true→pJ g listed q:=λ{q} h=>by
      obtain⟨h1,h2⟩:=befS h
      rw[hgk] at h2
      exact⟨g.getD q 0,by simp[List.getD,h1],fg (λj=>listed.getD j false=true) inv.closed ho' hlist _ h2⟩
    -- what hangs on a listed operation's tellings does not hang on this one
    have dep_lst:∀{q j:Nat},vG l g q j=true→pJ g listed j→pJ g listed q:=λ{q j} h ⟨j1,hj1,hl1⟩=>by
      obtain⟨h1,h2⟩:=befS h
      obtain⟨o3,_,ho3,_⟩:=hB.op j _ hj1
      have hgq:g.getD j 0=j1:=by simp[List.getD,hj1]
      rw[hgq] at h2
      exact⟨g.getD q 0,by simp[List.getD,h1],fg (λj=>listed.getD j false=true) inv.closed ho3 (inv.closed _ o3 ho3 hl1) _ h2⟩
    have dne:∀d q j o' d',o.dst=some d→g[q]? =some j→l[j]? =some o'→o'.dst=some d'→i≠j→d≠d':=λd q j o' d' hd hq hj hd' hji e=>by
      subst e
      have hpq:=gr hB.lt q j hq
      have:=kF hB.dsts hpk (hpq.trans hj) hd hd'
      subst this
      rw[hk] at hq;cases hq;exact hji rfl
    have hEnv:∀t s,look (eQ us (fQ ((pick l g).take k) ((its.take k).map (λit=>it.val.sv bs)) E)) t=some s→∃v,a.tmps[t]? =some v∧s.ok G v:=by
      intro t s e
      rw[jH] at e
      split at e
      · rename_i htu
        have hwt:=hwr t htu
        by_cases hw:∃q∈(pick l g).take k,q.dst=some t
        · obtain⟨o',hq,hqt⟩:=hw
          obtain⟨q,hq'⟩:=wV.1 hq
          have hqk:q<k:=by have:=(we.1 hq').1;simp at this;omega
          have hpq:(pick l g)[q]? =some o':=by rw[wu hqk] at hq';exact hq'
          have hgq:g[q]? =some g[q]:=by
            have:q<g.length:=by omega
            simp[this]
          have hlq:=gr hB.lt q _ hgq
          have hlo:l[g[q]]? =some o':=by rw[←hlq];exact hpq
          have hqi:q<its.length:=by omega
          have hsq:((its.take k).map (λit=>it.val.sv bs))[q]? =some (its[q].val.sv bs):=by simp[hqi,hqk]
          have hndt:(((pick l g).take k).filterMap (·.dst)).Nodup:=hB.dsts.sublist ((List.take_sublist k _).filterMap _)
          rw[mh hndt hq' hqt hsq] at e
          cases e
          refine hA q _ o' t _ hgq hlo hqt (by simp[hqi]) ?_
          exact fg (λj=>listed.getD j false=true) inv.closed ho' hlist _ ((hwt q _ o' hgq hlo hqt).1 hqk)
        · rw[iu (λx hx e'=>hw ⟨x,hx,e'⟩)] at e
          refine hB' t s e λj o' hj hlj hlisted hqt=>?_
          obtain⟨q,hq⟩:=wV.1 hj
          have hpq:=gr hB.lt q j hq
          have hqk:¬q<k:=λh=>hw ⟨o',by
            have:((pick l g).take k)[q]? =some o':=by rw[wu h,hpq];exact hlj
            exact ww this,hqt⟩
          by_cases hqk2:q=k
          · subst hqk2
            rw[hk] at hq;cases hq
            rw[hunf] at hlisted;cases hlisted
          · have:=fg (λj=>listed.getD j false=true) inv.closed hlj (inv.closed j o' hlj hlisted) i ((hwt q j o' hq hlj hqt).2 (by omega))
            rw[hunf] at this;cases this
      · cases e
    -- the tokens that it takes
    have hib:=hitB hit
    simp only[Dr,wq,w4] at hib
    obtain⟨⟨hib1,hib2⟩,hib3⟩:=hib
    have husedlive:∀x∈its[k].used,∃t,fv (eI ini its) x=some t∧t∈ks∧t.id=x:=λx hx=>by
      have h1:=hib1 x hx
      cases hf:fv (eI ini its) x with
      |none=>rw[hf] at h1;cases h1
      | some t =>
        rw[hf] at h1
        obtain⟨h2,h3⟩:=jN hf
        refine⟨t,rfl,(hks t).2 ⟨h2,λq hq=>?_,λq it hq hi hl=>?_⟩,h3⟩
        · simp only[hq] at h1;exact bef_lst h1
        · rw[h3] at hi
          have:=kN hT2 hq hit hi hx
          subst this
          exact hkun hl
    have hsp:ks.Perm (its[k].used.filterMap (fv (eI ini its))++ks.filter (λt=> !dH t.id its[k].used)):=by
      have hidu:(its[k].used.filterMap (fv (eI ini its))).map (·.id)=its[k].used:=by
        have:∀us:List Nat,(∀x∈us,∃t,fv (eI ini its) x=some t∧t∈ks∧t.id=x)→(us.filterMap (fv (eI ini its))).map (·.id)=us:=by
          intro us
          induction us with
          |nil=>intro _;rfl
          | cons x us ih =>
            intro h
            obtain⟨t,h1,_,h3⟩:=h x (by simp)
            rw[List.filterMap_cons,h1]
            simp only[wS,h3,ih λy hy=>h y (by simp[hy])]
        exact this _ husedlive
      have hndu:(its[k].used.filterMap (fv (eI ini its))).Nodup:=fP (by rw[hidu];exact mo hT2 hit)
      refine(List.perm_ext_iff_of_nodup (fP hnd) (yx.2 ⟨hndu,(fP hnd).filter _,λx hx y hy e=>?_⟩)).2 λt=>?_
      · subst e
        have h1:x.id∈its[k].used:=by rw[←hidu];exact List.mem_map_of_mem hx
        have:=(xU.1 hy).2
        rw[bw.2 h1] at this;cases this
      · rw[w6,xU,yq]
        constructor
        · intro h
          cases hm:dH t.id its[k].used with
          |false=>exact .inr ⟨h,by simp⟩
          |true=>exact .inl ⟨t.id,bw.1 hm,kj hT1 ((hks t).1 h).1⟩
        · rintro(⟨x,hx,hf⟩|⟨h,_⟩)
          · obtain⟨t',h1,h2,_⟩:=husedlive x hx
            rw[hf] at h1;cases h1;exact h2
          · exact h
    -- what it looks at
    have hread:∃rl:List pA,rl.map (λt=>t.tk.res bs)∈gt (eI ini its) its[k].rds bs∧∃rest,(ks.filter (λt=> !dH t.id its[k].used)).Perm (rl++rest):=by
      rcases hrdB hit with h0|h0
      · exact⟨[],by rw[h0];simp[gt],_,List.Perm.refl _⟩
      · have key:∀(rs:List Nat) (first:Bool) (prev:Option Nat),kM l g (eI ini its) its its[k].used k first prev rs=true→(first=true→rs≠[])→(first=false→∃c,prev=some c∧pJ g listed c)→
            ∃t∈ks,dH t.id its[k].used=false∧[t.tk.res bs]∈gt (eI ini its) rs bs:=by
          intro rs
          induction rs with
          | nil =>
            intro first prev h h1 h2
            cases first with
            |true=>exact absurd rfl (h1 rfl)
            | false =>
              obtain⟨c,rfl,hc⟩:=h2 rfl
              exact absurd (dep_lst h hc) hkun
          | cons i r ih =>
            intro first prev h h1 h2
            rw[kM] at h
            cases hf:fv (eI ini its) i with
            |none=>rw[hf] at h;cases h
            | some t =>
              rw[hf] at h
              simp only[wq,Bool.not_eq_true'] at h
              obtain⟨⟨ha,hb⟩,hc⟩:=h
              obtain⟨f1,f2⟩:=jN hf
              have hin:[t.tk.res bs]∈gt (eI ini its) (i::r) bs:=by
                cases r with
                |nil=>simp[gt,hf]
                |cons x xs=>simp[gt,hf]
              have hprod:∀q,t.prod=some q→pJ g listed q:=λq hq=>by
                cases first with
                |true=>rw[hq] at ha;exact bef_lst ha
                |false=>
                 obtain⟨c,rfl,hcl⟩:=h2 rfl
                 rw[hq] at ha
                 rw[wW (show Nat.beq q c=true from ha)];exact hcl
              by_cases hlive:∀q it,its[q]? =some it→t.id∈it.used→¬pJ g listed q
              · exact⟨t,(hks t).2 ⟨f1,hprod,hlive⟩,by rw[f2];exact hb,hin⟩
              · obtain⟨q,hq⟩:=Classical.not_forall.1 hlive
                obtain⟨it,hq⟩:=Classical.not_forall.1 hq
                obtain⟨hq1,hq⟩:=Classical.not_imp.1 hq
                obtain⟨hq2,hq⟩:=Classical.not_imp.1 hq
                have hq:=Classical.not_not.1 hq
                cases hcons:mi its 0 i with
                |none=>exact absurd hq2 (by rw[f2];exact mm hcons q it hq1)
                |some c=>
                 obtain⟨q',it',e1,e2,e3⟩:=mn hcons
                 rw[f2] at hq2
                 have e4:=kN hT2 hq1 e2 hq2 e3
                 rw[hcons] at hc
                 obtain⟨t',h5,h6,h7⟩:=ih false (some c) hc (λe=>by cases e) (λ_=>⟨c,rfl,by rw[e1,wL,←e4];exact hq⟩)
                 refine⟨t',h5,h6,?_⟩
                 cases r with
                 |nil=>simp only[gt,xO] at h7;cases h7
                 |cons x xs=>
                  show _∈(match fv (eI ini its) i with|some t=>[t.tk.res bs]|none=>[])::gt (eI ini its) (x::xs) bs
                  exact List.mem_cons_of_mem _ h7
        have hne:its[k].rds≠[]∨its[k].rds=[]:=by cases its[k].rds<;>simp
        rcases hne with hne|hne
        · obtain⟨t,h1,h2,h3⟩:=key _ true none h0 (λ_=>hne) (λe=>by cases e)
          have hm:t∈ks.filter (λt=> !dH t.id its[k].used):=xU.2 ⟨h1,by rw[h2];rfl⟩
          obtain⟨A1,A2,e⟩:=List.append_of_mem hm
          exact⟨[t],h3,A1++A2,by rw[e];exact List.perm_middle⟩
        · exact⟨[],by rw[hne];simp[gt],_,List.Perm.refl _⟩
    obtain⟨rl,hrl,restk,hrp⟩:=hread
    have hS1:St G w (tH (eI ini its) its[k].used bs++(rl.map (λt=>t.tk.res bs)++Lf (restk.map (λt=>t.tk.res bs)++L0))):=by
      refine hS.perm ((lfp (((hsp.map (λt=>t.tk.res bs)).append_right L0))).trans ?_)
      rw[xz,wM,pY]
      refine(iW hLf _ _).symm.trans (List.Perm.append_left _ ?_)
      refine(lfp ((hrp.map (λt=>t.tk.res bs)).append_right L0)).trans ?_
      rw[xz,wM]
      exact(iW hLf _ _).symm
    have hrun:=hop bs k o us _ hpk hus hit _ hrl G _ hg G a w (A5 G) ⟨hdf,hsz,hEnv⟩ hS1
    have hfr:=qa (Q:=Q) (i:=i) (by simpa using ho') hrun (λd hd=>by rw[hsz];exact hn o (ww hpk) d hd) hdf
    refine wpOp_mono (λa' w' h=>?_) hfr
    obtain⟨u,v,H,rfl,hgh,hok,hS'⟩:=h
    have lst_set:∀q,pJ g (listed.setIfInBounds i true) q↔pJ g listed q∨q=k:=λq=>by
      constructor
      · rintro⟨j,h1,h2⟩
        by_cases hji:i=j
        · subst hji;exact .inr (uniq q h1)
        · rw[yF false hji] at h2;exact .inl ⟨j,h1,h2⟩
      · rintro(⟨j,h1,h2⟩|rfl)
        · exact⟨j,h1,xZ h2⟩
        · exact⟨i,hk,by simp[hlt]⟩
    have tk_same:∀t∈ks,t.tk.res (xK bs k v)=t.tk.res bs:=λt ht=>by
      obtain⟨h1,h2,_⟩:=(hks t).1 ht
      refine t.tk.ok _ _ λq hq=>t6 _ _ λe=>?_
      subst e
      rcases w6.1 h1 with h|h
      · obtain⟨x,_,rfl⟩:=xj.1 h;simp[EQ] at hq
      · obtain⟨j,it,x,h4,h5,rfl⟩:=iL.1 h
        have hj:=h2 (0+j) rfl
        rw[wL] at hj
        have hib:=hitB h4
        simp only[Dr,wq,w4,xV] at hib
        rcases hib.1.2 x h5 q hq with hb|hb
        · have:=wW hb
          subst this;exact hkun hj
        · exact hkun (dep_lst hb hj)
    have sv_same:∀q it,its[q]? =some it→pJ g listed q→it.val.sv (xK bs k v)=it.val.sv bs:=λq it hq hl=>by
      refine it.val.ok _ _ λz hz=>t6 _ _ λe=>?_
      subst e
      have hib:=hitB hq
      simp only[Dr,wq,w4,xV] at hib
      rcases hib.2 z hz with hb|hb
      · have:=wW hb
        subst this;exact hkun hl
      · exact hkun (dep_lst hb hl)
    have outs_tab:∀x∈its[k].outs,(⟨x.1,some k,x.2⟩:pA)∈eI ini its:=λx hx=>zc _ (iL.2 ⟨k,_,x,hit,hx,by rw[wL]⟩)
    have out_notks:∀x∈its[k].outs,∀t∈ks,t.id≠x.1:=λx hx t ht e=>by
      have h1:=(hks t).1 ht
      have:=vM hT1 h1.1 (outs_tab x hx) e
      subst this
      exact hkun (h1.2.1 k rfl)
    have hne:its[k].outs.map (·.1)|>.Nodup:=by
      have hs:(its[k].outs.map (λx=>(⟨x.1,some k,x.2⟩:pA))).Sublist (eI ini its):=by
        refine List.Sublist.trans ?_ (List.sublist_append_right _ _)
        have:∀(its:List mB) (j q:Nat) (it:mB),its[q]? =some it→(it.outs.map (λx=>(⟨x.1,some (j+q),x.2⟩:pA))).Sublist (wE its j):=by
          intro its
          induction its with
          |nil=>intro j q it h;simp at h
          | cons it0 r ih =>
            intro j q it h
            cases q with
            |zero=>simp at h;subst h;exact List.sublist_append_left _ _
            |succ q=>rw[show j+(q+1)=j+1+q by omega];exact(ih (j+1) q it (by simpa using h)).trans (List.sublist_append_right _ _)
        have:=this its 0 k _ hit
        rwa [wL] at this
      have:=hT1.sublist (hs.map (·.id))
      simpa[List.map_map,Function.comp_def] using this
    have tm:∀(t:Nat) u',a.tmps[t]? =some u'→(∀d,o.dst=some d→d≠t)→(a.put o.dst u).tmps[t]? =some u':=by
      intro t u' hu hne
      cases hd:o.dst with
      |none=>exact hu
      |some d=>simp only[Act.put];rw[xW (hne d hd)];exact hu
    refine ih _ _ _ (by have:=iI hun;omega) ⟨by simp[inv.size],λj q hj hlj e he=>?_,λj hj hjl=>?_,λj hj hlj=>?_,H,xK bs k v,its[k].outs.map (λx=>⟨x.1,some k,x.2⟩)++ks.filter (λt=> !dH t.id its[k].used),Au hg hgh,?_,?_,λt=>?_,?_,?_,λq j o' d' it hq hj hd' hiq hlj=>?_,λt s' hl hno=>?_⟩
    · by_cases hji:i=j
      · subst hji
        rw[ho'] at hj;cases hj
        exact xZ (hlist e he)
      · rw[yF false hji] at hlj
        exact xZ (inv.closed j q hj hlj e he)
    · exact xZ (inv.dl j hj hjl)
    · by_cases hji:i=j
      · subst hji;exact .inr hig
      · rw[yF false hji] at hlj;exact inv.ex j hj hlj
    · have e1:(ks.filter (λt=> !dH t.id its[k].used)).map (λt=>t.tk.res (xK bs k v))=(ks.filter (λt=> !dH t.id its[k].used)).map (λt=>t.tk.res bs):=xm λt ht=>tk_same t (xU.1 ht).1
      rw[xz,e1,List.map_map,wM]
      refine hS'.perm ?_
      refine(List.Perm.append_left _ ?_).trans (iW hLf _ _)
      refine(iW hLf _ _).trans (lfp ?_)
      rw[←wM,←xz]
      exact((hrp.map _).append_right L0).symm
    · rw[xz,List.map_map]
      refine yx.2 ⟨by simpa[Function.comp_def] using hne,?_,λx hx y hy e=>?_⟩
      · exact hnd.sublist (List.filter_sublist.map _)
      · subst e
        simp only[xj,Function.comp_def] at hx
        obtain⟨z,hz,rfl⟩:=hx
        obtain⟨t,ht,e⟩:=xj.1 hy
        exact out_notks z hz t (xU.1 ht).1 e
    · rw[w6,xU,xj]
      constructor
      · rintro(⟨x,hx,rfl⟩|⟨h1,h2⟩)
        · refine⟨outs_tab x hx,λq hq=>?_,λq it hq hi hl=>?_⟩
          · cases hq;exact(lst_set k).2 (.inr rfl)
          · -- a token is taken only behind what gives it
            have hib:=hitB hq
            simp only[Dr,wq,w4] at hib
            have h5:=hib.1.1 _ hi
            rw[kj hT1 (outs_tab x hx)] at h5
            simp only at h5
            rcases(lst_set q).1 hl with h|rfl
            · exact hkun (dep_lst h5 h)
            · obtain⟨h6,h7⟩:=befS h5
              rw[hgk] at h7
              have:=fg (λj=>listed.getD j false=true) inv.closed ho' hlist _ h7
              rw[hunf] at this;cases this
        · obtain⟨h3,h4,h5⟩:=(hks t).1 h1
          refine⟨h3,λq hq=>(lst_set q).2 (.inl (h4 q hq)),λq it hq hi hl=>?_⟩
          rcases(lst_set q).1 hl with h|rfl
          · exact h5 q it hq hi h
          · rw[hit] at hq;cases hq
            rw[bw.2 hi] at h2;cases h2
      · rintro⟨h1,h2,h3⟩
        by_cases hp:t.prod=some k
        · left
          rcases w6.1 h1 with h|h
          · obtain⟨x,_,rfl⟩:=xj.1 h;cases hp
          · obtain⟨j,it,x,h4,h5,rfl⟩:=iL.1 h
            simp only[wL,Option.some.injEq] at hp
            subst hp
            rw[hit] at h4;cases h4
            exact⟨x,h5,by rw[wL]⟩
        · refine .inr ⟨(hks t).2 ⟨h1,λq hq=>?_,λq it hq hi hl=>h3 q it hq hi ((lst_set q).2 (.inl hl))⟩,?_⟩
          · rcases(lst_set q).1 (h2 q hq) with h|rfl
            · exact h
            · exact absurd hq hp
          · cases hm:dH t.id its[k].used with
            |false=>rfl
            |true=>exact absurd ((lst_set k).2 (.inr rfl)) (h3 k _ hit (bw.1 hm))
    · cases o.dst<;>exact hdf
    · cases o.dst with
      |none=>exact hsz
      |some d=>simp[Act.put,hsz]
    · by_cases hji:i=j
      · subst hji
        rw[ho'] at hj;cases hj
        have:=uniq q hq
        subst this
        rw[hit] at hiq;cases hiq
        refine⟨u,?_,hok d' hd'⟩
        rw[hd']
        simp only[Act.put];rw[xb (by rw[hsz];exact hn o (ww hpk) d' hd')]
      · rw[yF false hji] at hlj
        obtain⟨u',hu,ho3⟩:=hA q j o' d' it hq hj hd' hiq hlj
        rw[sv_same q it hiq ⟨j,hq,hlj⟩]
        exact⟨u',tm d' u' hu λd hd=>dne d q j o' d' hd hq hj hd' hji,Ao hgh ho3⟩
    · obtain⟨u',hu,ho3⟩:=hB' t s' hl (λj o' hj hlj hlisted=>hno j o' hj hlj (xZ hlisted))
      refine⟨u',tm t u' hu λd hd e=>?_,Ao hgh ho3⟩
      subst e
      exact hno i o hig ho' (by simp[hlt]) hd
theorem Aq {l:List Oper} (g:List Nat) (p:List (List Nat)) (its:List mB) (b:List (Nat×bJ)) (Lf:List bJ→List bJ) (A:∀r T,(r::Lf T).Perm (Lf (r::T))) (hL:Lf (b.map (·.2)++L)=L0) (hB:ly l D g p=true) (hT:z8 l g b its=true) (hn:(pick l g).all (λo=>match o.dst with|some d=>Nat.blt d n|none=>true)=true) (h:∀F,F0≤F→∀bs,i_ P n (eI b its) Lf l.toArray F bs (λE'=>bx F n E' (Lf (v5 (eI b its) (gz its) bs++L)) (ir P Q l (g++D))) 0 its p (pick l g) E):bx F0 n E L0 (ir P Q l D):=λF a w h0 hE hS y f hc m=>by subst hL;have key:=λbs=>pZ (h F h0 bs);have hG:=od hB;(have c:∀q,¬pJ g f q:=λq ⟨i,h1,h2⟩=>by have u:=ww h1;exact absurd ((m.ex i (hG.lt i u)).1 h2) (hG.apart i u));have v:=hT;simp only[z8,wq] at v;have z:=fB v.1.1;refine t8 A hG (key λ_=>undef).1 hT (λo ho d hd=>?_) (λbs k o us it h1 h2 h3 R hR G T hg=>by have:=(key bs).2.2 k o us it h1 h2 h3 R hR G T hg;rwa [wL] at this) (λbs G a w hg B C=>(key bs).2.1 G a w hg B C) y f a w hc ⟨m.size,m.closed,λj hj H=>(m.ex j H).2 hj,λj hj hl=> .inl ((m.ex j hj).1 hl),F,λ_=>undef,b.map (λx=>⟨x.1,none,EQ x.2⟩),A5 F,?_,?_,λt=>?_,hE.defers,hE.size,λk i o d it hk hi _ _ hl=>absurd ⟨i,hk,hl⟩ (c k),λt s hl _=>hE.at_ t s hl⟩;have:=w4.1 hn o ho;rw[hd] at this;simpa[xr] using this;(have e:(b.map (λx=>(⟨x.1,none,EQ x.2⟩:pA))).map (λt=>t.tk.res (λ_=>undef))=b.map (·.2):=by rw[List.map_map];rfl);rw[e];exact hS;exact z.sublist ((List.sublist_append_left _ _).map _);constructor;intro ht;refine⟨zg _ ht,λq hq=>?_,λq it _ _=>c q⟩;obtain⟨x,_,rfl⟩:=xj.1 ht;cases hq;rintro⟨h1,h2,_⟩;rcases w6.1 h1 with h|h;exact h;obtain⟨j,it,x,_,_,rfl⟩:=iL.1 h;exact absurd (h2 _ rfl) (c _)
theorem Tq.st {v:Sk} (s:SV) (X:List bJ) (hX:tH tab u bs=X) (hs:v.sv bs=s) (h:∀G T,F0≤G→bx G n (eQ us E) (X++Lf T) (wpList P a (Exit.then (jC G n (Lf T) j bs ⟨v,u,os,[]⟩ (some d)) QF) [⟨some d,op,ty,pos,aft,g⟩])) (k:i_ P n tab Lf a F0 bs K (j+1) its p l ((d,s)::E)):i_ P n tab Lf a F0 bs K j (⟨v,u,os,[]⟩::its) (us::p) (⟨some d,op,ty,pos,aft,g⟩::l) E:=by subst hX;subst hs;exact⟨λR hR=>by simp only[gt,xO] at hR;subst hR;exact h,k⟩
theorem Cx (X:List bJ) (hX:tH tab u bs=X) (h:∀G T,F0≤G→bx G n (eQ us E) (X++Lf T) (wpList P a (Exit.then (jC G n (Lf T) j bs ⟨v,u,os,[]⟩ none) QF) [⟨none,op,ty,pos,aft,g⟩])) (k:i_ P n tab Lf a F0 bs K (j+1) its p l E):i_ P n tab Lf a F0 bs K j (⟨v,u,os,[]⟩::its) (us::p) (⟨none,op,ty,pos,aft,g⟩::l) E:=by subst hX;exact⟨λR hR=>by simp only[gt,xO] at hR;subst hR;exact h,k⟩
theorem Tq.v (h:∀G T,F0≤G→bx G n (eQ us E) (Lf T) (wpList P a (Exit.then (jC G n (Lf T) j bs ⟨gC s,[],[],[]⟩ (some d)) QF) [⟨some d,op,ty,pos,aft,g⟩])) (k:i_ P n tab Lf a F0 bs K (j+1) its p l ((d,s)::E)):i_ P n tab Lf a F0 bs K j (⟨gC s,[],[],[]⟩::its) (us::p) (⟨some d,op,ty,pos,aft,g⟩::l) E:=⟨λR hR=>by simp only[gt,xO] at hR;subst hR;exact h,k⟩
def Ae:=@Tq.v
theorem Tq.nil (h:K E):i_ P n tab Lf a F0 bs K j [] [] [] E:=h
theorem zP {it:mB} (v:Value) (hd:look E d=some (it.val.sv (xK bs k v))) (hL:L'=it.outs.map (λx=>x.2.res (xK bs k v))++L):bx F0 n E L' (wpList P b (Exit.then (jC F0 n L k bs it (some d)) Q') []):=by subst hL;exact λF a w h0 hE hS=>⟨F,v,h0,hE.at_ d _ hd,hS,hE.defers⟩
theorem B8 {it:mB} (v:Value) (hL:L'=it.outs.map (λx=>x.2.res (xK bs k v))++L):bx F0 n E L' (wpList P b (Exit.then (jC F0 n L k bs it none) Q') []):=by subst hL;exact λF a w h0 hE hS=>⟨F,v,h0,trivial,hS,hE.defers⟩
end
end Go.Sim
namespace Go.Sim
open Go
section
variable {P:Program} {ops:Array Oper} {Q:Exit→Act→World→Prop} {rest:List Oper} {F F0:Fz} {n:Nat} {E:List (Nat×SV)} {L:List bJ} {C:World→Prop} {Qa:Act→Prop}
variable {d:Nat} {op:Op} {ty:TypeId} {pos:String} {aft:Array Edge} {s:SV} {X:Act→World→Prop}
theorem mv (h:ev E x=some s) (hd:Nat.blt d n=true) (k:bx F0 n ((d,s)::E) L (wpList P b Q a)):bx F0 n E L (wpList P b Q (⟨some d,.move x,ty,pos,aft,none⟩::a)):=Ab (ea.move h) hd k
theorem ag (h:ev E x=some s) (hd:Nat.blt d n=true) (k:bx F0 n ((d,s)::E) L (wpList P b Q a)):bx F0 n E L (wpList P b Q (⟨some d,.assign x,ty,pos,aft,none⟩::a)):=Ab (B3 h) hd k
theorem qB (h:ev E x=some s) (hd:Nat.blt d n=true) (k:bT F n ((d,s)::E) (wpQuiet P b (Cl F L) Qa a)):bT F n E (wpQuiet P b (Cl F L) Qa (⟨some d,.move x,ty,pos,aft,none⟩::a)):=B5 (ea.move h) hd k
theorem DS (h:ev E x=some s) (hd:Nat.blt d n=true) (k:bT F n ((d,s)::E) (wpQuiet P b (Cl F L) Qa a)):bT F n E (wpQuiet P b (Cl F L) Qa (⟨some d,.assign x,ty,pos,aft,none⟩::a)):=B5 (B3 h) hd k
theorem bn {b:BinOp} {k:IntKind} {x y:Int} {X Y:Operand} {t u:TypeId} {v:Value} (hX:ev E X=some (.raw (.int k x))) (hY:ev E Y=some (.raw (.int k y))) (hv:uB b k x y=some v) (hd:Nat.blt d n=true) (kk:bx F0 n ((d,.raw v)::E) L (wpList P c Q a)):bx F0 n E L (wpList P c Q (⟨some d,.binOp b t X Y u,ty,pos,aft,none⟩::a)):=Ab (BB hX hY hv) hd kk
theorem yI {b:BinOp} {k:IntKind} {x y:Int} {X Y:Operand} {t u:TypeId} {v:Value} (hX:ev E X=some (.raw (.int k x))) (hY:ev E Y=some (.raw (.int k y))) (hv:uB b k x y=some v) (hd:Nat.blt d n=true) (kk:bT F n ((d,.raw v)::E) (wpQuiet P c (Cl F L) Qa a)):bT F n E (wpQuiet P c (Cl F L) Qa (⟨some d,.binOp b t X Y u,ty,pos,aft,none⟩::a)):=B5 (BB hX hY hv) hd kk
theorem sr {x:Code} {id:Nat} {l:List Oper} (k:bx F0 n E L (wpList P l.toArray (Exit.then (x.wp P Q) Q) l)):bx F0 n E L ((Code.seq (Code.region id l.toArray false) x).wp P Q):=bx.seq (bx.region k)
theorem nt (k:bx F0 n E L K):bx F0 n E L (wpList P a (Exit.then K Q) []):=bx.nil (Bg k)
theorem ns {x:Code} {id:Nat} {l:List Oper} (k:bx F0 n E L (wpList P l.toArray (Exit.then (x.wp P Q) Q) l)):bx F0 n E L (wpList P a (Exit.then ((Code.seq (Code.region id l.toArray false) x).wp P Q) Q) []):=nt (sr k)
theorem ct (k:bx F0 n E L K):bx F0 n E L (Code.skip.wp P (Exit.then K Q)):=AR (Bg k)
theorem rt (k:bx F0 n E L (Q .ret)):bx F0 n E L (Code.ret.wp P (Exit.then K Q)):=Be (BK k)
theorem FV (hc:c=true) (h:ev E x=some (.raw (.bool c))) (h1:ev E y=some s):ea P n E L ⟨some d,.pick x y z,ty,pos,aft,none⟩ s:=ea.pick h (λ_=>h1) (λe=>absurd (e.symm.trans hc) (by decide))
theorem Gf (hc:c=false) (h:ev E x=some (.raw (.bool c))) (h1:ev E z=some s):ea P n E L ⟨some d,.pick x y z,ty,pos,aft,none⟩ s:=ea.pick h (λe=>absurd (e.symm.trans hc) (by decide)) (λ_=>h1)
theorem uK (h:some a=some b):SV.raw (.bool a)=SV.raw (.bool b):=congrArg (λb=>SV.raw (.bool b)) (Option.some.inj h)
theorem bD (h:some a=some b):a=b:=Option.some.inj h
end
theorem s1 (h0:look E k0=some u0):∀t v,look [(k0,u0)] t=some v→look E t=some v:=aM h0 (gR E)
theorem s2 (h0:look E k0=some u0) (h1:look E k1=some u1):∀t v,look [(k0,u0),(k1,u1)] t=some v→look E t=some v:=aM h0 (aM h1 (gR E))
theorem s3 (h0:look E k0=some u0) (h1:look E k1=some u1) (h2:look E k2=some u2):∀t v,look [(k0,u0),(k1,u1),(k2,u2)] t=some v→look E t=some v:=aM h0 (aM h1 (aM h2 (gR E)))
theorem s6 (h0:look E k0=some u0) (h1:look E k1=some u1) (h2:look E k2=some u2) (h3:look E k3=some u3) (h4:look E k4=some u4) (h5:look E k5=some u5):∀t v,look [(k0,u0),(k1,u1),(k2,u2),(k3,u3),(k4,u4),(k5,u5)] t=some v→look E t=some v:=aM h0 (aM h1 (aM h2 (aM h3 (aM h4 (aM h5 (gR E))))))
theorem s7 (h0:look E k0=some u0) (h1:look E k1=some u1) (h2:look E k2=some u2) (h3:look E k3=some u3) (h4:look E k4=some u4) (h5:look E k5=some u5) (h6:look E k6=some u6):∀t v,look [(k0,u0),(k1,u1),(k2,u2),(k3,u3),(k4,u4),(k5,u5),(k6,u6)] t=some v→look E t=some v:=aM h0 (aM h1 (aM h2 (aM h3 (aM h4 (aM h5 (aM h6 (gR E)))))))
theorem s8 (h0:look E k0=some u0) (h1:look E k1=some u1) (h2:look E k2=some u2) (h3:look E k3=some u3) (h4:look E k4=some u4) (h5:look E k5=some u5) (h6:look E k6=some u6) (h7:look E k7=some u7):∀t v,look [(k0,u0),(k1,u1),(k2,u2),(k3,u3),(k4,u4),(k5,u5),(k6,u6),(k7,u7)] t=some v→look E t=some v:=aM h0 (aM h1 (aM h2 (aM h3 (aM h4 (aM h5 (aM h6 (aM h7 (gR E))))))))
theorem Fy (h0:look E k0=some u0) (h1:look E k1=some u1) (h2:look E k2=some u2) (h3:look E k3=some u3) (h4:look E k4=some u4) (h5:look E k5=some u5) (h6:look E k6=some u6) (h7:look E k7=some u7) (h8:look E k8=some u8) (h9:look E k9=some u9) (a:look E b=some c) (d:look E e=some f) (g:look E h=some i) (j:look E k=some l) (m:look E n=some o) (p:look E q=some r):∀t v,look [(k0,u0),(k1,u1),(k2,u2),(k3,u3),(k4,u4),(k5,u5),(k6,u6),(k7,u7),(k8,u8),(k9,u9),(b,c),(e,f),(h,i),(k,l),(n,o),(q,r)] t=some v→look E t=some v:=aM h0 (aM h1 (aM h2 (aM h3 (aM h4 (aM h5 (aM h6 (aM h7 (aM h8 (aM h9 (aM a (aM d (aM g (aM j (aM m (aM p (gR E))))))))))))))))
theorem FT (h0:look E k0=some u0) (h1:look E k1=some u1) (h2:look E k2=some u2) (h3:look E k3=some u3) (h4:look E k4=some u4) (h5:look E k5=some u5) (h6:look E k6=some u6) (h7:look E k7=some u7) (h8:look E k8=some u8) (h9:look E k9=some u9) (a:look E b=some c) (d:look E e=some f) (g:look E h=some i) (j:look E k=some l) (m:look E n=some o) (p:look E q=some r) (s:look E u=some w) (x:look E y=some z) (A:look E B=some C) (D:look E F=some G) (H:look E I=some K) (L:look E M=some N) (O:look E P=some Q) (R:look E S=some T):∀t v,look [(k0,u0),(k1,u1),(k2,u2),(k3,u3),(k4,u4),(k5,u5),(k6,u6),(k7,u7),(k8,u8),(k9,u9),(b,c),(e,f),(h,i),(k,l),(n,o),(q,r),(u,w),(y,z),(B,C),(F,G),(I,K),(M,N),(P,Q),(S,T)] t=some v→look E t=some v:=aM h0 (aM h1 (aM h2 (aM h3 (aM h4 (aM h5 (aM h6 (aM h7 (aM h8 (aM h9 (aM a (aM d (aM g (aM j (aM m (aM p (aM s (aM x (aM A (aM D (aM H (aM L (aM O (aM R (gR E))))))))))))))))))))))))
abbrev sq:=@bx.seq
abbrev rg:=@bx.region
abbrev nl:=@bx.nil
abbrev tn:=@Bg
abbrev te:=@Cs
abbrev tr:=@BK
abbrev rc:=@Be
abbrev bk:=@bx.block
abbrev bh:=@Ct
abbrev bN:=@Bh
abbrev bm:=@Cu
abbrev xt:=@bx.exit
abbrev cs:=@AR
abbrev dr:=@BJ
abbrev gc:=@Ch
abbrev gq:=@CE
abbrev sk:=@Ci
abbrev oq:=@B5
abbrev ov:=@Ab
abbrev rf:=@B0
abbrev nK:=@Cg
abbrev dw:=@BX
abbrev DA:=@bT.nil
end Go.Sim
namespace Go.Sim
open Go
section
variable {P:Program} {ops:Array Oper} {Q:Exit→Act→World→Prop} {rest:List Oper} {F0:Fz} {n:Nat} {E:List (Nat×SV)} {L:List bJ}
variable {d:Nat} {op:Op} {ty:TypeId} {pos:String} {aft:Array Edge} {s:SV}
theorem AN {T : TypeId} {X I : Operand} {x : List Int} {c : Int} {q : IntKind} {i : Int} {s1 : SV} (hx : idx x i = some c) (hT : P.underlying T = some .string) (hX : ev E X = some s1) (h1 : eH s1 kG x) (hI : ev E I = some (.raw (.int q i))) : ea P n E L ⟨some d, .index T X I, ty, pos, aft, none⟩ (.raw (.int .u8 c)) := Ac λF a hE w => by obtain ⟨st, hv, rfl⟩ := kg (h1 F _ (hE.eval hX));obtain ⟨h0, h2, h3⟩ := eO hx;(have hl : i.toNat < st.size := by (have : i < (st.data.toList.length : Int) := by simpa using h2);(have e : st.size = st.data.toList.length := by rw [xg]; rfl);omega);have hi : 0 ≤ i ∧ i < st.size := ⟨h0, by omega⟩;(have hc : c = ((st[i.toNat]'hl).toNat : Int) := by (have h4 : (st.data.toList.map λb => (b.toNat : Int))[i.toNat]? = some ((st[i.toNat]'hl).toNat : Int) := by simp only [List.getElem?_map, Array.getElem?_toList];(have : st.data[i.toNat]? = some (st[i.toNat]'hl) := by rw [Array.getElem?_eq_getElem (show i.toNat < st.data.size from hl)]; rfl);rw [this]; rfl);rw [h3] at h4; exact Option.some.inj h4);simp only [execOp, hv, hE.raw hI, wv, Go.run_index_string w T st q i hT, hi, and_self, dif_pos, wm, wF];rw [hc]
theorem CD {K:Kd α} {A:Option Operand} {xs:List α} {l h m:Int} (hs:sub xs l h=some ys) (hm:decide (h≤m∧m≤(xs.length:Int))=true) (hT:P.underlying T=some (.slice e)) (hz:(P.info? e).map (·.size)=some K.n) (hX:ev E X=some s) (hr:eH s (cI K) xs) (hA:CS E A 0=some l) (hB:ev E B=some (.raw (.int k h))) (hC:ev E C=some (.raw (.int k' m))):ea P n E L ⟨some d,.slice T X A (some B) (some C),ty,pos,aft,none⟩ (.val (cI K) ys):=zX λF a hE=>by obtain⟨h0,h1,h2,rfl⟩:=iJ hs;obtain⟨m1,m2⟩:=wj hm;obtain⟨cs,⟨ad,cap,rfl,hcap,r⟩,he⟩:=hr F _ (hE.eval hX);have he:a.eval X= .slice ad xs.length cap:=he;(have hbnd:∀w,(Instr.sliceBounds true xs.length cap (A.map a.eval) (some (.int k h)) (some (.int k' m))).run P w= .ok (l.toNat,h.toNat,m.toNat) w:=λw=>by(have e1:(m.toNat:Int)=m:=by omega);(have e2:(h.toNat:Int)=h:=by omega);rcases mf hE hA with⟨rfl,rfl⟩|⟨q,hq⟩;simp[Instr.sliceBounds,fk (show 0≤m by omega) (show m≤(cap:Int) by omega),fk (show 0≤h by omega) (show h≤((m.toNat:Nat):Int) by omega)];simp[Instr.sliceBounds,hq,fk (show 0≤m by omega) (show m≤(cap:Int) by omega),fk (show 0≤h by omega) (show h≤((m.toNat:Nat):Int) by omega),fk h0 (show l≤((h.toNat:Nat):Int) by omega)]);(have hl:((xs.take h.toNat).drop l.toNat).length=h.toNat - l.toNat:=by simp;omega);refine⟨.slice (if m.toNat=l.toNat then ad else ad.map (·.add (l.toNat*K.n))) (h.toNat - l.toNat) (m.toNat - l.toNat),?_,λw=>?_⟩;simp only[SV.ok];refine⟨[_],⟨_,m.toNat - l.toNat,by rw[hl],by rw[hl];omega,?_⟩,rfl⟩;rcases r with r|⟨p,c,e',fr,rfl,hp,hb,hle,hrd⟩;exact .inl (by rw[hl];omega);by_cases hc:m.toNat=l.toNat;exact .inl (by rw[hl];omega);refine .inr ⟨p.add (l.toNat*K.n),c,e',fr,by simp[hc],?_,?_,?_,?_⟩;obtain⟨b,o,sp⟩:=p;simp only at hp;subst hp;rw[wP];obtain⟨b,o,sp⟩:=p;simp only at hp;subst hp;rw[wP];exact hb;obtain⟨b,o,sp⟩:=p;simp only at hp;subst hp;rw[wP,hl];(have:l.toNat*K.n+(h.toNat - l.toNat)*K.n≤xs.length*K.n:=by rw[←xp];exact wh _ (by omega));simp only at hle⊢;omega;obtain⟨b,o,sp⟩:=p;simp only at hp;subst hp;rw[wP,hl];have h3:=(hrd.take h.toNat).drop l.toNat;simp only at h3⊢;rw[yg,wX (wh _ (by omega)),ye,wU] at h3;rw[Nat.sub_mul];exact h3;simp only[execOp,Instr.sliceAt,he,Instr.slice,wo hT,Option.map_some,hE.raw hB,hE.raw hC,wv,wm,hbnd w,cc hz,wF]
theorem B9 {K:Kd α} {xs:List α} {l h:Int} (hs:sub xs l h=some ys) (hT:P.underlying T=some (.array m e)) (hz:(P.info? e).map (·.size)=some K.n) (hX:ev E X=some (.ptr (bG m K) xs)) (hA:CS E A 0=some l) (hB:CS E B m=some h):ea P n E L ⟨some d,.slice T X A B none,ty,pos,aft,none⟩ (.val (cI K) ys):=zX λF a hE=>by obtain⟨h0,h1,h2,rfl⟩:=iJ hs;have:=hE.eval hX;simp only[SV.ok] at this;obtain⟨p,he,hp⟩:=this;obtain⟨c,e',fr,f,hb,j,hm,hrd⟩:=hp.out;have g:∀w,_:=λw=>jK (P:=P) hE (isS:=false) (len:=m) (cap:=m) hA hB h0 h1 (by omega) w;(have hl:((xs.take h.toNat).drop l.toNat).length=h.toNat - l.toNat:=by simp;omega);refine⟨.slice (some (if m=l.toNat then p else p.add (l.toNat*K.n))) (h.toNat - l.toNat) (m - l.toNat),?_,λw=>?_⟩;simp only[SV.ok];refine⟨[_],⟨_,m - l.toNat,by rw[hl],by rw[hl];omega,?_⟩,rfl⟩;by_cases hc:m=l.toNat;exact .inl (by rw[hl];omega);refine .inr ⟨p.add (l.toNat*K.n),c,e',fr,by simp[hc],?_,?_,?_,?_⟩;obtain⟨b,o,sp⟩:=p;simp only at f;subst f;rw[wP];obtain⟨b,o,sp⟩:=p;simp only at f;subst f;rw[wP];exact hb;obtain⟨b,o,sp⟩:=p;simp only at f;subst f;rw[wP,hl];(have:l.toNat*K.n+(h.toNat - l.toNat)*K.n≤xs.length*K.n:=by rw[←xp];exact wh _ (by omega));have h9:(bG m K).n=m*K.n:=rfl;rw[hm] at this;simp only[h9] at j⊢;omega;obtain⟨b,o,sp⟩:=p;simp only at f;subst f;rw[wP,hl];have h9:(bG m K).n=m*K.n:=rfl;have i:bd K F ((c.toList.drop o).take (m*K.n)) xs:=hrd;have h3:=(i.take h.toNat).drop l.toNat;simp only at h3⊢;rw[yg,wX (wh _ (by omega)),ye,wU] at h3;rw[Nat.sub_mul];exact h3;simp only[execOp,Instr.sliceAt,wo hT,he,Instr.sureAddr,g w,cc hz,wv,wm,wF,Option.map_none]
end
end Go.Sim
namespace Go.Sim
open Go
theorem At.sub {K0:Kd β} {K:Kd α} {xs:List α} (p:At K0 x o (bG m K) xs up) (h:l+k≤m):
  At K0 x (o+l*K.n) (bG k K) ((xs.drop l).take k) (λys=>up (xs.take l++ys++xs.drop (l+k))) where
 get:=λ{F cs} hx=>by
  obtain⟨a,hl,b⟩:=p.get hx
  have h1:(l+k)*K.n≤m*K.n:=wh _ h
  rw[xp] at h1
  have a':o+m*K.n≤cs.length:=a
  have d:(bG k K).n=k*K.n:=rfl
  refine⟨by rw[d];omega,by simp;omega,?_⟩
  have h2:=(b.drop l).take k
  rw[show(bG m K).n=m*K.n from rfl,df (by omega)] at h2
  rw[d];exact h2
 set:=λ{F cs c ys} hx hy=>by
  obtain⟨a,hl,b⟩:=p.get hx
  obtain⟨g,f⟩:=hy
  have h1:(l+k)*K.n≤m*K.n:=wh _ h
  rw[xp] at h1
  have e:bd K F ((((cs.drop o).take (bG m K).n).take (l*K.n))++c++(((cs.drop o).take (bG m K).n).drop (l*K.n+k*K.n))) (xs.take l++ys++xs.drop (l+k)):=by
   have h3:=b.take l
   have h4:=b.drop (l+k)
   rw[xp] at h4
   exact(h3.append f).append h4
  have:=p.set hx (c:=_) (z:=xs.take l++ys++xs.drop (l+k)) ⟨by simp;omega,e⟩
  refine cast (congrArg (λl=>K0.rd F l _) ?_) this
  exact nD (u:=l*K.n) (q:=k*K.n) (m:=m*K.n) h1
section
variable {α β:Type} [BEq α] [LawfulBEq α]
end
section
variable {P:Program} {ops:Array Oper} {Q:Exit→Act→World→Prop} {rest:List Oper} {F0:Fz} {n:Nat} {E:List (Nat×SV)} {L:List bJ}
variable {d:Nat} {op:Op} {ty:TypeId} {pos:String} {aft:Array Edge} {s:SV}
variable {α β:Type} [BEq α] [LawfulBEq α]
theorem Cy (hg:decide (0<k∧lo+k≤hi∧hi≤m)=true) (hT:P.underlying T=some (.array k e)) (hX:ev E X=some (.raw (.slice (some (if m=lo then⟨b,off,none⟩ else⟨b,off+lo*sz,none⟩)) (hi - lo) (m - lo)))):ea P n E L ⟨some d,.sliceToArrayPointer T X,ty,pos,aft,none⟩ (.raw (.pointer (some ⟨b,off+lo*sz,none⟩))):=Ac λF a hE w=>by obtain⟨h0,h1,h2⟩:=wj hg;(have c:m≠lo:=by omega);(have f:¬hi - lo<k:=by omega);simp[execOp,Instr.arrayAt,wo hT,hE.raw hX,c,f]
end
section
variable {P:Program} {ops:Array Oper} {Q:Exit→Act→World→Prop} {rest:List Oper} {F0:Fz} {n:Nat} {E:List (Nat×SV)} {L:List bJ}
variable {d:Nat} {op:Op} {ty:TypeId} {pos:String} {aft:Array Edge} {s:SV}
variable {α β:Type} [BEq α]
end
end Go.Sim
namespace Go.Sim
open Go
theorem el {xs:List α} (h:i<xs.length):idx xs (i:Int)=some xs[i]:=by unfold idx;(have h1:(0:Int)≤(i:Int):=by omega);(have h2:(i:Int)<(xs.length:Int):=by omega);simp[h1,h2,h]
theorem bA (h: -9223372036854775808≤x∧x≤9223372036854775807):IntKind.i64.wrap x=x:=IntWalk.i64_in _ (by omega)
theorem bb {xs ys:List α} (h:xs.length+ys.length≤c7):app xs ys=some (xs++ys):=by unfold app;simp[h]
def aT (x:List Int):Prop:=∀b∈x,0≤b∧b≤255
section
variable {α β:Type} [BEq α] [LawfulBEq α]
end
section
variable {α β:Type} [BEq α] [LawfulBEq α]
end
end Go.Sim
