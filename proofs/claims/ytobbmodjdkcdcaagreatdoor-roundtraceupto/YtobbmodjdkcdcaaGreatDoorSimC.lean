import Derived.Test.YtobbmodjdkcdcaaGreatDoorSimB
import Derived.Laws.StructEq
import Derived.Lib.ConvBytes
import Derived.Laws.BytesString
import Derived.ClaimOpenTies
import Derived.Leaving
import Derived.Laws.IdiomRangeMap
import Derived.Laws.Strings
set_option linter.all false
set_option autoImplicit true
set_option relaxedAutoImplicit true
namespace Go.Sim
open Go
section
variable {P:Program} {ops:Array Oper} {Q:Exit→Act→World→Prop} {rest:List Oper} {F0:Fz} {n:Nat} {E:List (Nat×SV)} {L:List Res}
variable {d:Nat} {op:Op} {ty:TypeId} {pos:String} {aft:Array Edge} {s:SV}
def srcT (P:Program) (u:TypeId):Bool:=match P.underlying u with|some (.slice _)|some .string=>true|_=>false
theorem rv (h:srcT P u=true):(∃e,P.underlying u=some (.slice e))∨P.underlying u=some .string:=by unfold srcT at h;split at h;rename_i e he;exact .inl ⟨_,he⟩;rename_i he;exact .inr he;cases h
theorem CQ {i:TypeInfo} {z:Value} (ht:P.underlying t=some (.slice e)) (hu:srcT P u=true) (hi:P.info? e=some i) (hz:i.zero=some z) {w:World} {news:List Value} (hv:SrcV P w i.size v m news) (h0:0<m) (h63:(m:Int)≤9223372036854775807) (h48:m*i.bytes≤281474976710656):(Builtin.append_ #[t,u] ty #[.slice none 0 0,v]).run P w= .ok (.slice (some ⟨w.heap.size,0,none⟩) m (grownCap w m 0 e)) (w.drew.alloc (.cells (news.toArray++Builtin.zeroCells z.cells (grownCap w m 0 e - m)) e)):=by(have hn:m≠0:=by omega);(have h63':¬(9223372036854775807<(m:Int)):=by omega);(have h48':¬(281474976710656<Builtin.nextslicecap m 0*i.bytes):=by rw[nextslicecap_zero h0];omega);have hf:=hv.cells w.drew rfl m (F9 _);rw[←hv.nl,Gm] at hf;have hlen:=hv.len w;rcases rv hu with⟨e',hu⟩|hu<;>simp[Builtin.append_,FY ht,FY hu,sizeOf,typeInfo,zeroValue,hi,hz,hlen,hn,h63',h48',Question.forced,run_firstCells_none,hf,newRow,grownCap]
theorem CR {u:TypeId} {i:TypeInfo} (ht:P.underlying t=some (.slice e)) (hu:srcT P u=true) (hi:P.info? e=some i) {cur:Array Value} {w:World} (hg:w.heap[g]? =some (.cells cur e (0,0))) {news:List Value} (hv:SrcV P w i.size v m news) (h1:∀u∈news,u.oneCell'=true) (hr:sLen+m≤sCap) (hfit:sLen*i.size+news.length≤cur.size):(Builtin.append_ #[t,u] ty #[.slice (some ⟨g,0,none⟩) sLen sCap,v]).run P w= .ok (.slice (some ⟨g,0,none⟩) (sLen+m) sCap) (w.setRow g (cur.toList.take (sLen*i.size)++news++cur.toList.drop (sLen*i.size+news.length)).toArray):=by have hf:=hv.cells w rfl m (F9 _);rw[←hv.nl,Gm] at hf;have hlen:=hv.len w;have hst:=run_storeCells_at P g (sLen*i.size) e news 0 cur w hg (by simpa using hfit) h1;simp only[HQ] at hst;(have hadd:(⟨g,0,none⟩:Addr).add (sLen*i.size)=⟨g,sLen*i.size,none⟩:=by rw[Gp,Gf]);rcases rv hu with⟨e',hu⟩|hu<;>simp[Builtin.append_,FY ht,FY hu,sizeOf,typeInfo,hi,hlen,hr,hf,hadd,hst]
theorem CS {i:TypeInfo} {z:Value} (ht:P.underlying t=some (.slice e)) (hu:srcT P u=true) (hi:P.info? e=some i) (hz:i.zero=some z) {w:World} {b:Addr} {olds:List Value} (hlo:olds.length=sLen*i.size) (holds:∀j v,olds[j]? =some v→w.cell? (b.add j)=some v) {news:List Value} (hv:SrcV P w i.size v m news) (hg:sCap<sLen+m) (h63:((sLen+m:Nat):Int)≤9223372036854775807) (hfit:Builtin.nextslicecap (sLen+m) sCap*i.bytes≤281474976710656):(Builtin.append_ #[t,u] ty #[.slice (some b) sLen sCap,v]).run P w= .ok (.slice (some ⟨w.heap.size,0,none⟩) (sLen+m) (grownCap w (sLen+m) sCap e)) (w.drew.alloc (.cells (olds.toArray++news.toArray++Builtin.zeroCells z.cells (grownCap w (sLen+m) sCap e - (sLen+m))) e)):=by(have hn:¬(sLen+m≤sCap):=by omega);(have h63':¬(9223372036854775807<((sLen:Int)+(m:Int))):=by omega);(have h48':¬(281474976710656<Builtin.nextslicecap (sLen+m) sCap*i.bytes):=by omega);have hf:=hv.cells w.drew rfl m (F9 _);rw[←hv.nl,Gm] at hf;have hlen:=hv.len w;have hfo:=Je (P:=P) w.drew i.size sLen b sLen sCap olds hlo (by simpa using holds);rcases rv hu with⟨e',hu⟩|hu<;>(simp[Builtin.append_,FY ht,FY hu,sizeOf,typeInfo,zeroValue,hi,hz,hlen,hn,h63',h48',Question.forced,hf,hfo,newRow,grownCap];congr 2;apply Array.ext';simp[F6])
theorem Aq {α:Type} {K:Kd α} {z:α} {bytes:Nat} {t u e:TypeId} {v:Value} {xs ys:List α} {F:Fz} {h:Frag} {w:World} (hroom:xs.length+ys.length≤room) (hT:P.underlying t=some (.slice e)) (hu:srcT P u=true) (he:AT P e K z bytes)
   (hh:(Res.own K v e xs).holds F h) (hon:∀b o,h b=some o→w.heap[b]? =some o) {src:Value} {news:List Value} (hv:SrcV P w K.n src ys.length news) (hnr:bi K F news ys) (hn1:∀u∈news,u.oneCell'=true):
   ∃v' w' h',(Builtin.append_ #[t,u] ty #[v,src]).run P w= .ok v' w'∧(Res.own K v' e (xs++ys)).holds F h'∧Chg w w' h∧(∀b,h' b≠none→h b≠none∨w.heap.size≤b)∧(∀b o,h' b=some o→w'.heap[b]? =some o):=by
 obtain⟨ie,zv,h1,h2,h3,h4,h5,h6,h7⟩:=he.out
 have hzs:zv.cells.size=K.n:=by have:=K.len (h7 F);simpa using this
 have hbytes:(xs.length+ys.length)*ie.bytes≤140737488355328:=by
   have:(xs.length+ys.length)*ie.bytes≤room*4096:=IL hroom (by omega)
   unfold room at this;omega
 have hmax:xs.length+ys.length≤maxLen:=by unfold room at hroom;simp only[maxLen];omega
 have hsmall:xs.length+ys.length≤9223372036854775807:=by simp only[maxLen] at hmax;omega
 have hlen:(xs++ys).length=xs.length+ys.length:=by simp
 have hnl:news.length=ys.length*K.n:=hv.nl
 rw[←h3] at hv
 by_cases hy:ys.length=0
 · have:ys=[]:=Gb hy
   subst this
   have hl0:=hv.len w
   have hc0:=hv.cells w rfl 0 (F9 _)
   simp only[Jh,HK] at hc0
   simp only[Gg] at hl0
   refine⟨v,w,h,?_,by simpa using hh,⟨rfl,rfl,rfl,λ_ _ _=>rfl⟩,λb hb=> .inl hb,hon⟩
   rcases hh with⟨rfl,rfl,_⟩|⟨g,cap,cur,rfl,_,h8,_⟩
   · rcases rv hu with⟨e',hud⟩|hud<;>simp[Builtin.append_,FY hT,FY hud,sizeOf,typeInfo,h1,hl0,hc0]
   · rcases rv hu with⟨e',hud⟩|hud<;>simp[Builtin.append_,FY hT,FY hud,sizeOf,typeInfo,h1,hl0,hc0,h8,storeCells]
 · have fresh:∀(old:Nat) (olds:List Value),bi K F olds xs→old<xs.length+ys.length→
       (Res.own K (.slice (some ⟨w.heap.size,0,none⟩) (xs.length+ys.length) (grownCap w (xs.length+ys.length) old e)) e (xs++ys)).holds F
         (Frag.one w.heap.size (.cells (olds.toArray++news.toArray++Builtin.zeroCells zv.cells (grownCap w (xs.length+ys.length) old e - (xs.length+ys.length))) e (0,0))):=by
     intro old olds ho hlt
     have hge:=grownCap_ge w (xs.length+ys.length) old e
     have hcm:grownCap w (xs.length+ys.length) old e≤maxLen:=grownCap_le_maxLen w (xs.length+ys.length) old e hmax
     have hol:=ho.len
     refine .inr ⟨w.heap.size,_,_,by rw[hlen],rfl,by rw[hlen];exact hge,hcm,?_,?_⟩
     · simp only[Array.size_append,Hk,size_zeroCells,hzs,hol,hnl,←Hm]
       congr 1;omega
     · rw[hlen]
       simp only[Jb]
       have e1:(olds++news).length=(xs.length+ys.length)*K.n:=by rw[FM,hol,hnl,Hm]
       rw[←e1,Hh];exact ho.append hnr
   have alloc:∀(cells:Array Value),Chg w (w.drew.alloc (.cells cells e)) h∧(∀b,Frag.one w.heap.size (.cells cells e (0,0)) b≠none→h b≠none∨w.heap.size≤b)∧
       (∀b o,Frag.one w.heap.size (.cells cells e (0,0)) b=some o→(w.drew.alloc (.cells cells e)).heap[b]? =some o):=by
     intro cells
     obtain⟨a1,a2⟩:=kY w (.cells cells e)
     exact⟨⟨rfl,rfl,rfl,λb hb _=>Iq w _ b hb⟩,λb hb=> .inr (a1 b hb),a2⟩
   rcases hh with⟨rfl,rfl,rfl⟩|⟨g,cap,cur,rfl,rfl,a3,a4,a5,a6⟩
   · have hr:=CQ (ty:=ty) hT hu h1 h2 hv (by omega) (by simp only[Gg] at hmax;omega) (by have hb:=hbytes;simp only[Gg,Gf] at hb;omega)
     have hf:=fresh 0 [] rfl (by simp;omega)
     simp only[Gg,Gf,Hy,F8] at hf⊢
     exact⟨_,_,_,hr,hf,alloc _⟩
   · have hg:=hon g _ (Ju _ _)
     by_cases hr:xs.length+ys.length≤cap
     · have hfit:xs.length*ie.size+news.length≤cur.size:=by rw[hnl,h3,a5,←Hm];exact FS _ hr
       have hrun:=CR (ty:=ty) hT hu h1 hg hv hn1 hr hfit
       refine⟨_,_,Frag.one g (.cells (cur.toList.take (xs.length*ie.size)++news++cur.toList.drop (xs.length*ie.size+news.length)).toArray e (0,0)),hrun,.inr ⟨g,cap,_,by rw[hlen],rfl,by rw[hlen];exact hr,a4,?_,?_⟩,
         ⟨rfl,rfl,rfl,λk _ hn=>setRow_other w g k _ (λe=>by rw[e,Ju] at hn;cases hn)⟩,λb hb=> .inl ?_,λb o e'=>?_⟩
       · simp only[Hk,FM,Ga,Gh,G1]
         omega
       · rw[hlen]
         have e1:(cur.toList.take (xs.length*ie.size)++news).length=(xs.length+ys.length)*K.n:=by
           rw[FM,Ga,hnl,h3,Hm]
           have:xs.length*K.n≤cur.toList.length:=by simp only[G1,a5];exact FS _ a3
           omega
         rw[←e1,Hh,h3];exact a6.append hnr
       · by_cases hbg:b=g
         · subst hbg;rw[Ju];simp
         · exact absurd (JZ _ hbg) hb
       · obtain⟨rfl,rfl⟩:=JT e';exact setRow_heap w b cur _ e _ hg
     · have holds:∀j u,(cur.toList.take (xs.length*K.n))[j]? =some u→w.cell? ((⟨g,0,none⟩:Addr).add j)=some u:=fun j u hu=>by
         have hj:j<xs.length*K.n:=by have:=(FN.1 hu).1;rw[a6.len] at this;exact this
         rw[Gp,Gf,Ib w g j cur e (0,0) hg]
         rw[Gc hj] at hu;simpa using hu
       have hrun:=CS (ty:=ty) hT hu h1 h2 (b:=⟨g,0,none⟩) (sLen:=xs.length) (sCap:=cap) (olds:=cur.toList.take (xs.length*K.n)) (by rw[h3];exact a6.len) holds hv (by omega) (by omega) (growslice_fits (by omega) hbytes)
       have hf:=fresh cap _ a6 (by omega)
       exact⟨_,_,_,hrun,hf,alloc _⟩
theorem Mi {α:Type} {K:Kd α} {z:α} {bytes:Nat} {t u e:TypeId} {v:Value} {xs ys:List α} {F:Fz} {w:World} (hroom:xs.length+ys.length≤room) (hT:P.underlying t=some (.slice e)) (hu:srcT P u=true) (he:AT P e K z bytes) (hSt:St F w (.own K v e xs::L)) {src:Value} {news:List Value} (hv:SrcV P w K.n src ys.length news) (hnr:bi K F news ys) (hn1:∀u∈news,u.oneCell'=true):∃v' w',(Builtin.append_ #[t,u] ty #[v,src]).run P w= .ok v' w'∧St F w' (.own K v' e (xs++ys)::L):=by obtain⟨f0,hh,hap,hs'⟩:=hSt;have hon:∀b o,f0 b=some o→w.heap[b]? =some o:=λb o e=>hs'.on.blk b o (by have:=hap b (by simp[e]);simp[Fz.add,this,e]);obtain⟨v',w',h',r1,r2,r3,r4,r5⟩:=Aq (P:=P) (ty:=ty) hroom hT hu he hh hon hv hnr hn1;refine⟨v',w',r1,h',r2,λb hb=>?_,hs'.change hap r3 r4 r5⟩;rcases r4 b hb with x|x;exact hap b x;cases e:F.blk b with|none=>rfl|some o=>have:=fg (hs'.on.blk b o ((F.le_add f0).blk b o e));omega
theorem Lv {α:Type} {K:Kd α} {z:α} {bytes:Nat} {t u e:TypeId} {S V:Operand} {v:Value} {xs ys zs:List α} (hz:Go.Sim.app xs ys=some zs) (hT:P.underlying t=some (.slice e)) (hu:srcT P u=true) (he:AT P e K z bytes) (hS:ev E S=some (.raw v)) (hV:ev E V=some s) (hr:Src P s K ys) (hd:Nat.blt d n=true) (k:∀v',Under F0 n ((d,.raw v')::E) (.own K v' e zs::L) (wpList P ops Q rest)):Under F0 n E (.own K v e xs::L) (wpList P ops Q (⟨some d,.call ⟨.builtin .append,#[S,V],#[t,u]⟩,ty,pos,aft,none⟩::rest)):=JE rfl λF a w h0 hE hSt=>by obtain⟨hroom,rfl⟩:=vr hz;obtain⟨news,e1,e2,e3⟩:=hr.out hSt.on (hE.eval hV);obtain⟨v',w',r1,hS'⟩:=Mi (P:=P) (ty:=ty) hroom hT hu he hSt e1 e2 e3;unfold Oper.wp;simp only[execOp,resolve,invoke,builtin,FV,F3,FQ,G4,Ge,Hl,hE.raw hS,r1,Oper.upon];exact k v' F _ _ h0 (hE.put hd (by simp only[SV.ok])) hS'
def OkX (P:Program) (f:FuncId) (args:List SV) (L:List Res) {C:Type} (s:C→SV) (L':C→List Res):Prop:=∀F w vs,SV.oks F vs args→St F w L→Calls P f vs.toArray w λe w'=>∃y G v,e= .returned v∧F≤G∧St G w' (L' y)∧(s y).ok G v
theorem JJ {f:FuncId} {X:Operand} {xs:List Operand} {tys:Array TypeId} {l:List SV} {C:Type} {s:C→SV} {L':C→List Res} (hc:∀args w,(callFunc f args).run P w= .ok (.enter f args) w) (hX:ev E X=some (.raw (.func (.func f) #[] #[]))) (hx:evs E xs=some l) (ho:OkX P f l L s L') (hd:Nat.blt d n=true) (k:∀y,Under F0 n ((d,s y)::E) (L' y) (wpList P ops Q rest)):Under F0 n E L (wpList P ops Q (⟨some d,.call ⟨.value X,xs.toArray,tys⟩,ty,pos,aft,none⟩::rest)):=JE rfl λF a w h0 hE hS=>by have hv:=Ky hE hx;have h1:=ho F w _ hv hS;unfold Oper.wp;simp only[execOp,resolve,hE.raw hX,Deferred.ofValue,invoke,G4,FV,F3,FQ,Hy,Ie];rw[hc];exact h1.mono λe w' ⟨y,G,v,he,hg,hS',hok⟩=>by subst he;exact k y G _ _ (Ki h0 hg) ((hE.mono hg).put hd hok) hS'
theorem OkX.intro {f:FuncId} {fn:Func} {c:Code} {args:List SV} {C:Type} {s:C→SV} {L':C→List Res} (m:Nat) (E0:List (Nat×SV)) (hf:P.funcs[f]? =some fn) (hb:fn.body=some c) (hn:fn.ntmps=m) (hl:Nat.ble args.length m=true) (hE:argE 0 args=E0) (k:∀F0,Under F0 m E0 L (c.wp P (bodyPost P fn λe w'=>∃y G v,e= .returned v∧F0≤G∧St G w' (L' y)∧(s y).ok G v))):OkX P f args L s L':=λF w vs hv hS=>by refine calls_of_wp hf hb ?_;have hl':=mq hv;have hle:=Hb hl;(have he:fn.ntmps - vs.toArray.size=m - args.length:=by simp[hn,hl']);rw[he];(have h2:args.length+(m - args.length)=m:=by omega);have hst:=LI hv (m - args.length);rw[h2,hE] at hst;exact k F F _ w (KF F) hst hS
def Ka:=@OkX.intro
inductive RetV (P:Program) (E:List (Nat×SV)):List ResultVar→List SV→Prop where
 |nil:RetV P E [] []
 |tm {u:Nat} {s:SV} {l:List ResultVar} {ss:List SV} (h:look E u=some s) (r:RetV P E l ss):RetV P E (.tmp u::l) (s::ss)
 |ce {α:Type} {K:Kd α} {u T:Nat} {x:α} {l:List ResultVar} {ss:List SV} (h:look E u=some (.ptr K x)) (hT:KT P T K) (r:RetV P E l ss):RetV P E (.cell u T::l) (.val K x::ss)
def lk:List SV→SV|[s]=>s|l=> .tup l
def resF (a:Act):ResultVar→Sem Value
 | .tmp t=>pure (a.tmps.getD t undef)
 | .cell b t=>do loadVar t (←asAddr (a.tmps.getD b undef))
theorem RetV.run {F:Fz} {a:Act} (hE:Env F a n E) (hS:F.on w):∀{l:List ResultVar} {ss:List SV},RetV P E l ss→∃vs:List Value,(l.mapM (resF a)).run P w= .ok vs w∧SV.oks F vs ss|_,_,.nil=>⟨[],by simp,by simp only[SV.oks]⟩|_,_,.tm h r=>by obtain⟨v,h1,h2⟩:=hE.at_ _ _ h;obtain⟨vs,h3,h4⟩:=RetV.run hE hS r;refine⟨v::vs,?_,by simp only[SV.oks];exact⟨h2,h4⟩⟩;(have e:∀u,a.tmps[u]? =some v→(resF a (.tmp u)).run P w= .ok v w:=λu hu=>by simp[resF,Ik,hu]);simp only[Jk,FV,F3,e _ h1,FQ,h3]|_,_,.ce h hT r=>by obtain⟨v,h1,h2⟩:=hE.at_ _ _ h;obtain⟨vs,h3,h4⟩:=RetV.run hE hS r;simp only[SV.ok] at h2;obtain⟨p,rfl,hp⟩:=h2;obtain⟨u,hu,hk⟩:=D4 hT hS hp;refine⟨u::vs,?_,by simp only[SV.oks,SV.ok];exact⟨hk,h4⟩⟩;(have e:∀u' T,a.tmps[u']? =some (.pointer (some p))→(loadVar T p).run P w= .ok u w→(resF a (.cell u' T)).run P w= .ok u w:=λu' T hu' hl=>by simp[resF,Ik,hu',asAddr,hl]);simp only[Jk,FV,F3,e _ _ h1 hu,FQ,h3]
theorem RetV.results {F:Fz} {a:Act} {fn:Func} {l:List ResultVar} (hr:fn.results=l.toArray) (hE:Env F a n E) (hS:F.on w) (h:RetV P E l ss):∃v,(Go.results fn a.tmps).run P w= .ok v w∧(lk ss).ok F v:=by
 obtain⟨vs,h1,h2⟩:=RetV.run hE hS h
 have hl:=mq h2
 have he:Go.results fn a.tmps=(do let vs←fn.results.mapM (resF a);pure (if h:vs.size=1 then vs[0] else .tuple vs)):=by
  unfold Go.results
  congr 1
 have h3:(fn.results.mapM (resF a)).run P w= .ok vs.toArray w:=by
  rw[hr,List.mapM_toArray,Sem.run_map,h1];rfl
 refine⟨if h:vs.toArray.size=1 then vs.toArray[0] else .tuple vs.toArray,by rw[he];simp only[FV,h3,FQ,F3],?_⟩
 match vs,ss,h2 with
 |[],[],_=>simp only[lk,SV.ok];exact⟨[],by simp,by simp only[SV.oks]⟩
 |[v],[s],h2=>simp only[lk];simp only[SV.oks] at h2;simpa using h2.1
 |v::u::vs,s::t::ss,h2=>simp only[lk,SV.ok];exact⟨v::u::vs,by simp,h2⟩
 |[],_::_,h2=>simp only[SV.oks] at h2
 |_::_,[],h2=>simp only[SV.oks] at h2
 |[_],_::_::_,h2=>simp only[SV.oks] at h2;exact absurd h2.2 (by simp[SV.oks])
 |_::_::_,[_],h2=>simp only[SV.oks] at h2;exact absurd h2.2 (by simp[SV.oks])
theorem Lw {fn:Func} {l:List ResultVar} (hr:fn.results=l.toArray) (h:RetV P E l ss) (he:lk ss=s) (hL:L=L'):Under F0 n E L (bodyPost P fn (λe w'=>∃G v,e= .returned v∧F0≤G∧St G w' L'∧s.ok G v) .ret):=λF a w h0 hE hS=>by subst he;subst hL;obtain⟨v,h1,h2⟩:=h.results hr hE hS.on;exact⟨hE.defers,v,h1,F,v,rfl,h0,hS,h2⟩
theorem L9 {fn:Func} {l:List ResultVar} {ss:List SV} {C:Type} {s:C→SV} {L':C→List Res} (y:C) (hr:fn.results=l.toArray) (h:RetV P E l ss) (he:lk ss=s y) (hL:L=L' y):Under F0 n E L (bodyPost P fn (λe w'=>∃y G v,e= .returned v∧F0≤G∧St G w' (L' y)∧(s y).ok G v) .ret):=λF a w h0 hE hS=>by obtain⟨v,h1,h2⟩:=h.results hr hE hS.on;exact⟨hE.defers,v,h1,y,F,v,rfl,h0,hL▸hS,he▸h2⟩
theorem KP {x:Code} (hX:ev E X=some (.raw (.bool true))) (k:Under F0 n E L (x.wp P Q)):Under F0 n E L ((Code.cond X x y).wp P Q):=Kg hX (λ_=>k) (λh=>by cases h)
theorem Kr {y:Code} (hX:ev E X=some (.raw (.bool false))) (k:Under F0 n E L (y.wp P Q)):Under F0 n E L ((Code.cond X x y).wp P Q):=Kg hX (λh=>by cases h) (λ_=>k)
theorem BL {m:Nat} (hj:sW J [(d,s)] E=true):∀t v,look ((d,s)::E) t=some v→look ((d,s)::J++E) t=some v:=by intro t v h;rw[ck] at h;rw[G5,ck];split at h;rename_i hk;rw[Gz hk];exact h;rename_i hk;rw[Gt hk,pj];(have:look [(d,s)] t=none:=by rw[ck,Gt hk];rfl);rw[vq hj this h];exact h
theorem Mj (m:Nat) {E1:List (Nat×SV)} (he:s'=s) (hj:sW (E1.take m) [(d,s)] (E1.drop m)=true) (k:Under F0 n ((d,s)::E1.drop m) L X):Under F0 n ((d,s')::E1) L X:=by subst he;refine Ld (λt v h=>?_) k;have:=BL (m:=m) hj t v h;rwa [G5,GJ] at this
theorem MX (m:Nat) {E1:List (Nat×SV)} (he:s'=s) (hj:sW (E1.take m) [(d,s)] (E1.drop m)=true) (k:aK F n ((d,s)::E1.drop m) X):aK F n ((d,s')::E1) X:=by subst he;intro a hE;refine k a (hE.sub λt v h=>?_);have:=BL (m:=m) hj t v h;rwa [G5,GJ] at this
end
end Go.Sim
namespace Go.Sim
open Go
section
variable {P:Program} {ops:Array Oper} {Q:Exit→Act→World→Prop} {rest:List Oper} {F0:Fz} {n:Nat} {E:List (Nat×SV)} {L:List Res}
variable {d:Nat} {op:Op} {ty:TypeId} {pos:String} {aft:Array Edge} {s:SV}
theorem KQ (h:∀F a,Env F a n E→∀w G,F≤G→St G w L→(execOp a.eval o).run P w= .ok (.value v) w):OpV P n E L o (.raw v):=λF a hE=>⟨v,by simp only[SV.ok],λw ⟨G,hg,hS⟩=>by unfold Oper.quietAt;rw[h F a hE w G hg hS];exact⟨rfl,rfl⟩⟩
theorem MY {K:Kd α} {i:Int} (hb:Blk1 r R b K0 x) (p:At K0 x off (kArr m K) xs up) (hi:idx xs i=some z) (hT:P.underlying T=some (.array m e)) (hs:(P.info? e).map (·.size)=some K.n) (hX:ev E X=some (.raw (.pointer (some ⟨b,off,none⟩)))) (hI:ev E I=some (.raw (.int q i))):OpV P n E (r::L) ⟨some d,.indexAddr T X I,ty,pos,aft,none⟩ (.raw (.pointer (some ⟨b,off+i.toNat*K.n,none⟩))):=KQ λF a hE w G hg hS=>by obtain⟨h,hh,hon⟩:=hS.head;obtain⟨cs,post,e,rfl,hrd,_⟩:=hb.out hh;obtain⟨_,hm,_⟩:=p.get hrd;obtain⟨h0,h1,_⟩:=iU hi;simp[execOp,hE.raw hX,hE.raw hI,pi hT hs h0 (by omega) (p:=⟨b,off,none⟩) rfl w]
theorem JK {K:Kd α} {xs:List α} {i:Int} (hx:idx xs i=some x) (hT:P.underlying T=some (.slice e)) (hs:(P.info? e).map (·.size)=some K.n) (hX:ev E X=some (.raw v)) (hI:ev E I=some (.raw (.int q i))):OpV P n E (.own K v e' xs::L) ⟨some d,.indexAddr T X I,ty,pos,aft,none⟩ (.raw (.pointer (some ⟨om v,0+i.toNat*K.n,none⟩))):=KQ λF a hE w G hg hS=>by obtain⟨h0',h1,_⟩:=iU hx;obtain⟨f,hf,_⟩:=hS;have hv:=hE.raw hX;rcases hf with⟨rfl,rfl,_⟩|⟨g,cap,cur,rfl,_⟩;simp at h1;omega;have hr:=pg (P:=P) hT hs (p:=⟨g,0,none⟩) (m:=xs.length) (c:=cap) (q:=q) h0' h1 rfl w;simp[execOp,hv,hE.raw hI,hr,om]
theorem J7 {xs:List α} (ht:P.underlying t=some (.slice e)) (hX:ev E X=some (.raw v)):OpV P n E (.own K v e' xs::L) ⟨some d,.call ⟨.builtin .len,#[X],#[t]⟩,ty,pos,aft,none⟩ (.raw (.int .i64 xs.length)):=KQ λF a hE w G hg hS=>by obtain⟨f,hf,_⟩:=hS;have hv:=hE.raw hX;rcases hf with⟨rfl,rfl,_⟩|⟨g,cap,cur,rfl,_⟩<;>simp[execOp,resolve,invoke,builtin,Builtin.len_,FY ht,hv,goInt]
theorem Ly {p:Option Addr} (hg:P.underlying T=some (.pointer T')) (hb:b= .eql∨b= .neq) (hX:ev E X=some (.raw (.pointer p))):OpV P n E L ⟨some d,.binOp b T X (.const (.pointer none)) u,ty,pos,aft,none⟩ (.raw (.bool (if b= .eql then p.isNone else p.isSome))):=JW λF a hE w=>by have h2:a.eval (.const (.pointer none))= .pointer none:=rfl;(have hg':P.underlying T=some (.pointer (P.pointee T)):=by simp[Program.pointee,hg]);rw[execOp];simp only[hE.raw hX,h2,eqGuard];rcases hb with rfl|rfl;simp[run_eql_pointer_nil w T p hg'];cases p<;>simp[run_neq_pointer_nil w T _ hg']
theorem Jw (hX:ev E X=some (.raw v)) (hv:∃p,v= .pointer (some p)):OpV P n E L ⟨some d,.nilCheck X,ty,pos,aft,none⟩ (.raw v):=JW λF a hE w=>by obtain⟨p,rfl⟩:=hv;simp[execOp,hE.raw hX]
def CvS (F:Fz) {β γ:Type} (x:β) (x':Value→γ):List (Fld β)→List (Fld γ)→Prop|[],[]=>True|f::fs,f'::fs'=>(∀v cs,f.K.rd F cs (f.get x)→f'.K.rd F cs (f'.get (x' v)))∧CvS F x x' fs fs'|_,_=>False
def CvE (F:Fz) {β γ:Type} (x:β) (x':Value→γ):List (Fld β)→List (Fld γ)→Nat→Prop|[],_,_=>False|_,[],_=>False|f::fs,f'::fs',0=>(∀cs,f.K.rd F cs (f.get x)→∃v:Value,f'.K.rd F cs (f'.get (x' v))∧v.oneCell'=true)∧CvS F x x' fs fs'|f::fs,f'::fs',i+1=>(∀v cs,f.K.rd F cs (f.get x)→f'.K.rd F cs (f'.get (x' v)))∧CvE F x x' fs fs' i
theorem CvS.rd:∀{fs:List (Fld β)} {fs':List (Fld γ)} {cs:List Value},CvS F x x' fs fs'→rdF F fs cs x→rdF F fs' cs (x' v)|[],[],_,_,h=>h|f::fs,f'::fs',_,⟨h1,h2⟩,⟨c,d,e,a,b⟩=>⟨c,d,e,h1 v c a,CvS.rd h2 b⟩|[],_::_,_,h,_=>h.elim|_::_,[],_,h,_=>h.elim
theorem CvE.rd:∀{fs:List (Fld β)} {fs':List (Fld γ)} {i:Nat} {cs:List Value},CvE F x x' fs fs' i→rdF F fs cs x→∃v:Value,rdF F fs' cs (x' v)∧v.oneCell'=true|[],_,_,_,h,_=>h.elim|_::_,[],_,_,h,_=>h.elim|f::fs,f'::fs',0,_,⟨h1,h2⟩,⟨c,d,e,a,b⟩=>by obtain⟨v,h3,h4⟩:=h1 c a;exact⟨v,⟨c,d,e,h3,CvS.rd h2 b⟩,h4⟩|f::fs,f'::fs',i+1,_,⟨h1,h2⟩,⟨c,d,e,a,b⟩=>by obtain⟨v,h3,h4⟩:=CvE.rd h2 b;exact⟨v,⟨c,d,e,h1 v c a,h3⟩,h4⟩
theorem D8:∀cs,(kSl K).rd F cs xs→∃v:Value,kRaw.rd F cs v∧v.oneCell'=true:=by rintro cs ⟨a,cap,rfl,r⟩;exact⟨_,⟨rfl,rfl⟩,rfl⟩
theorem LZ (x':Value→γ) (hc:∀F,CvE F x x' fs fs' i) (k:∀v:Value,v.oneCell'=true→Under F0 n E (.box (kSt fs') b T (x' v)::L) X):Under F0 n E (.box (kSt fs) b T x::L) X:=λF a w h0 hE hS=>by obtain⟨f,⟨cs,hr,rfl⟩,hap,hs'⟩:=hS;obtain⟨v,h1,h2⟩:=CvE.rd (hc F) hr;exact k v h2 F a w h0 hE ⟨_,⟨cs,h1,rfl⟩,hap,hs'⟩
theorem rdS {s:ByteArray} (h:s.data.toList.map (λb=>(b.toNat:Int))=x):rdOf (.raw (.string s)) kStr x:=λF v hv=>by simp only[SV.ok] at hv;subst hv;exact⟨[.string s],⟨s,rfl,h.symm⟩,rfl⟩
theorem nY (h:kStr.val F v x):∃s:ByteArray,v= .string s∧x=s.data.toList.map (λb=>(b.toNat:Int)):=by obtain⟨cs,⟨s,rfl,hx⟩,e⟩:=h;exact⟨s,e,hx⟩
theorem BM {a b:ByteArray} (h:a.data.toList.map (λb=>(b.toNat:Int))=b.data.toList.map (λb=>(b.toNat:Int))):a=b:=by(have key:∀l m:List UInt8,l.map (λb=>(b.toNat:Int))=m.map (λb=>(b.toNat:Int))→l=m:=by intro l;induction l with|nil=>(intro m h;cases m with|nil=>rfl|cons _ _=>cases h)|cons x l ih=>intro m h;cases m with|nil=>cases h|cons y m=>simp only[Ge,List.cons.injEq] at h;rw[ih m h.2,UInt8.toNat_inj.1 (by omega:x.toNat=y.toNat)]);have:=key _ _ h;cases a;cases b;simp only[ByteArray.mk.injEq] at*;exact Array.toList_inj.1 this
theorem Lb {b:BinOp} (hT:P.underlying T=some .string) (hX:ev E X=some s1) (h1:rdOf s1 kStr x) (hY:ev E Y=some s2) (h2:rdOf s2 kStr y) (hb:b= .eql∨b= .neq):OpV P n E L ⟨some d,.binOp b T X Y u,ty,pos,aft,none⟩ (.raw (.bool (if b= .eql then x==y else x != y))):=JW λF a hE w=>by obtain⟨s1',e1,rfl⟩:=nY (h1 F _ (hE.eval hX));obtain⟨s2',e2,rfl⟩:=nY (h2 F _ (hE.eval hY));(have hq:((s1'.data.toList.map λb=>(b.toNat:Int))==(s2'.data.toList.map λb=>(b.toNat:Int)))=(s1'.toList==s2'.toList):=by rw[Gk,IA,IA];simp only[Hj];exact⟨λh=>by rw[BM h],λh=>by rw[h]⟩);rcases hb with rfl|rfl;simp only[IE,hq];rw[execOp];simp only[e1,e2,eqGuard];simp[binOp_string_eql];simp only[reduceCtorEq,IC,bne,hq];rw[execOp];simp only[e1,e2,eqGuard];simp[binOp_string_neq]
theorem MU {x:List Int} (ht:P.underlying t=some .string) (hX:ev E X=some s1) (h1:rdOf s1 kStr x):OpV P n E L ⟨some d,.call ⟨.builtin .len,#[X],#[t]⟩,ty,pos,aft,none⟩ (.raw (.int .i64 x.length)):=JW λF a hE w=>by obtain⟨s1',e1,rfl⟩:=nY (h1 F _ (hE.eval hX));simp[execOp,resolve,invoke,builtin,Builtin.len_,FY ht,e1,goInt]
end
end Go.Sim
namespace Go.Sim
open Go
def kw:List Oper→List SV→List (Nat×SV)→List (Nat×SV)|o::l,s::sv,E=>(match o.dst with|some d=>kw l sv ((d,s)::E)|none=>kw l sv E)|_,_,E=>E
def E6 (R:List (List Nat)) (g:List Nat) (lg:List Oper) (k t:Nat):Bool:=(List.range g.length).all λq=>match lg[q]? with|some o=>(match o.dst with|some d=> !(Nat.beq d t)||(cond (Nat.blt q k) (memN (g.getD q 0) (R.getD (g.getD k 0) [])) (cond (Nat.beq q k) true (memN (g.getD k 0) (R.getD (g.getD q 0) []))))|none=>true)|none=>true
def tP (l:List Oper) (D g:List Nat) (p:List (List Nat)):Bool:=g.all (λi=>Nat.blt i l.length)&&g.all (λi=> !memN i D)&&pq g&&pq ((pick l g).filterMap (·.dst))&&(List.range l.length).all (λj=>memN j D||memN j g||g.all (λi=>memN i ((lD l []).getD j [])))&&(List.range g.length).all λk=>match(pick l g)[k]?,p[k]? with|some o,some us=> !Am o.op&&(afters o).all (λe=>Nat.blt e l.length&&(memN e D||memN e (g.take k)))&&us.all (λt=>E6 (lD l []) g (pick l g) k t)|_,_=>false
section
variable {P:Program} {ops:Array Oper} {Q:Exit→Act→World→Prop} {rest:List Oper} {F0:Fz} {n:Nat} {E:List (Nat×SV)} {L:List Res}
variable {d:Nat} {op:Op} {ty:TypeId} {pos:String} {aft:Array Edge} {s:SV} {Lf:List Res→List Res}
theorem yt {l:List Oper} {g:List Nat} (h:tP l D g p=true):GB l D g p:=by simp only[tP,FT,GM] at h;obtain⟨⟨⟨⟨⟨h1,h2⟩,h3⟩,h4⟩,h5⟩,h6⟩:=h;(have hlt:∀i∈g,i<l.length:=λi hi=>by simpa[Hp] using h1 i hi);refine⟨hlt,λi hi hm=>?_,jI h3,jI h4,λj hj=>?_,λk i hk=>?_⟩;have:=h2 i hi;rw[cp.2 hm] at this;cases this;have:=h5 j (GY.2 hj);simp only[Hd,GM] at this;rcases this with(h|h)|h;exact .inl (cp.1 h);exact .inr (.inl (cp.1 h));exact .inr (.inr λi hi=>by have:=cp.1 (h i hi);simpa[List.getD] using this);have hkl:k<g.length:=(FN.1 hk).1;have hil:i<l.length:=hlt i (Gn hk);have hpk:=lA hlt k i hk;(have ho:l[i]? =some l[i]:=by simp[hil]);have h7:=h6 k (GY.2 hkl);rw[hpk,ho] at h7;cases hp:p[k]? with|none=>rw[hp] at h7;cases h7|some us=>rw[hp] at h7;simp only[FT,GM,G8] at h7;refine⟨l[i],us,ho,by rw[hpk,ho],rfl,h7.1.1,λe he=>?_,λt ht q j o' hq hj hd=>?_⟩;have:=h7.1.2 e he;simp only[FT,Hd,Hp] at this;exact⟨this.1,this.2.imp cp.1 cp.1⟩;have h8:=h7.2 t ht;simp only[E6,GM] at h8;have hql:q<g.length:=(FN.1 hq).1;have h9:=h8 q (GY.2 hql);rw[lA hlt q j hq,hj] at h9;(have gk:g.getD k 0=i:=by simp[List.getD,hk]);(have gq:g.getD q 0=j:=by simp[List.getD,hq]);simp only[hd,Nat.beq_refl,Gr,HG,gk,gq] at h9;constructor;intro hlt2;(have:Nat.blt q k=true:=by simpa[Hp] using hlt2);rw[this,FJ] at h9;simpa[List.getD] using cp.1 h9;intro hlt2;(have hb:Nat.blt q k=false:=by cases hb:Nat.blt q k with|false=>rfl|true=>(have:q<k:=by simpa[Hp] using hb);omega);(have hne:Nat.beq q k=false:=by cases hb:Nat.beq q k with|false=>rfl|true=>have:=GK hb;omega);rw[hb,FI,hne,FI] at h9;simpa[List.getD] using cp.1 h9
theorem mP:∀{l:List Oper} {sv:List SV} {E:List (Nat×SV)},(∀o∈l,o.dst≠some t)→look (kw l sv E) t=look E t|[],sv,E,_=>by simp[kw]|o::l,[],E,_=>by simp[kw]|o::l,s::sv,E,h=>by have ih:=λE'=>mP (t:=t) (l:=l) (sv:=sv) (E:=E') (λq hq=>h q (by simp[hq]));have ho:=h o (by simp);rw[kw];cases hd:o.dst with|none=>exact ih E|some d=>simp only[];rw[ih,ck,Gt];intro e;rw[hd] at ho;exact ho (by rw[e])
theorem vP:∀{l:List Oper} {sv:List SV} {E:List (Nat×SV)} {j:Nat} {o:Oper},(l.filterMap (·.dst)).Nodup→l[j]? =some o→o.dst=some t→sv[j]? =some s→look (kw l sv E) t=some s|[],sv,E,j,o,_,hj,_,_=>by simp at hj|q::l,[],E,j,o,_,_,_,hs=>by simp at hs|q::l,s0::sv,E,j,o,hn,hj,ht,hs=>by cases j with|zero=>simp at hj hs;subst hj;subst hs;rw[H6 ht,Hq] at hn;rw[kw,ht];simp only[];rw[mP (λx hx e=>hn.1 (Ic.2 ⟨x,hx,e⟩)),ck];simp|succ j=>have hn2:(l.filterMap (·.dst)).Nodup:=hn.sublist ((List.sublist_cons_self q l).filterMap _);rw[kw];cases hd:q.dst<;>exact vP hn2 (by simpa using hj) ht (by simpa using hs)
theorem nZ (hLf:∀r T,(r::Lf T).Perm (Lf (r::T))):∀(X:List Res) (T:List Res),(X++Lf T).Perm (Lf (X++T))|[],T=>List.Perm.refl _|r::X,T=>(List.Perm.cons r (nZ hLf X T)).trans (hLf r _)
theorem Fp (hLf:∀r T,(r::Lf T).Perm (Lf (r::T))) {X:List Res} (h:X.Perm Y) (T:List Res):(Lf (X++T)).Perm (Lf (Y++T)):=(nZ hLf X T).symm.trans ((h.append_right _).trans (nZ hLf Y T))
def vblk:Value→Nat| .pointer (some p)=>p.block|_=>0
theorem lf0:∀r T,(r::(λT:List Res=>T) T).Perm ((λT:List Res=>T) (r::T)):=λ_ _=>List.Perm.refl _
theorem lf1:∀r T,(r::(λT:List Res=>r1::T) T).Perm ((λT:List Res=>r1::T) (r::T)):=λ_ _=>List.Perm.swap _ _ _
theorem lf2:∀r T,(r::(λT:List Res=>r1::r2::T) T).Perm ((λT:List Res=>r1::r2::T) (r::T)):=λ_ _=>(List.Perm.swap _ _ _).trans (List.Perm.cons _ (List.Perm.swap _ _ _))
theorem lf3:∀r T,(r::(λT:List Res=>r1::r2::r3::T) T).Perm ((λT:List Res=>r1::r2::r3::T) (r::T)):=λ_ _=>(List.Perm.swap _ _ _).trans (List.Perm.cons _ ((List.Perm.swap _ _ _).trans (List.Perm.cons _ (List.Perm.swap _ _ _))))
theorem lf4:∀r T,(r::(λT:List Res=>r1::r2::r3::r4::T) T).Perm ((λT:List Res=>r1::r2::r3::r4::T) (r::T)):=λ_ _=>(List.Perm.swap _ _ _).trans (List.Perm.cons _ ((List.Perm.swap _ _ _).trans (List.Perm.cons _ ((List.Perm.swap _ _ _).trans (List.Perm.cons _ (List.Perm.swap _ _ _))))))
end
end Go.Sim
namespace Go.Sim
open Go
section
variable {P:Program} {ops:Array Oper} {Q:Exit→Act→World→Prop} {rest:List Oper} {F0:Fz} {n:Nat} {E:List (Nat×SV)} {L:List Res}
variable {d:Nat} {op:Op} {ty:TypeId} {pos:String} {aft:Array Edge} {s:SV}
theorem M8 {α:Type} [BEq α] {T:TypeId} {K:Kd α} {dep D:Nat} (h:EqK P T K dep) (hle:Nat.ble dep D=true):EqK P T K D:=⟨λ{d F v u x y w} h1 h2=>by have:=Hb hle;(have e:d+D=(d+(D - dep))+dep:=by omega);rw[e];exact h.eq h1 h2⟩
theorem EqK.str (hT:P.underlying T=some .string):EqK P T kStr 1:=⟨λ{d F v u x y w} h1 h2=>by obtain⟨s1,e1,rfl⟩:=nY h1;obtain⟨s2,e2,rfl⟩:=nY h2;subst e1;subst e2;(have hq:((s1.data.toList.map λb=>(b.toNat:Int))==(s2.data.toList.map λb=>(b.toNat:Int)))=(s1.toList==s2.toList):=by rw[Gk,IA,IA];simp only[Hj];exact⟨λh=>by rw[BM h],λh=>by rw[h]⟩);rw[hq];exact run_equalIn_string w d T s1 s2 hT⟩
def EqFs (P:Program) (D:Nat) {β:Type}:List Field→List (Fld β)→Nat→(β→β→Bool)→Prop
 |[],[],_,q=>∀x y,q x y=true
 | f :: ff, k :: fs, o, q => f.name ≠ "_" ∧ f.offset = o ∧ KT P f.type k.K ∧ ∃ (i : BEq k.α), EqK P f.type k.K D ∧ ∃ q', (∀ x y, q x y = (k.get x == k.get y && q' x y)) ∧ EqFs P D ff fs (o + k.K.n) q'
 |_,_,_,_=>False
theorem Ar {D d:Nat} {cs ds:List Value}:∀{ff:List Field} {fs:List (Fld β)} {o:Nat} {q:β→β→Bool},EqFs P D ff fs o q→o+nF fs=cs.length→o+nF fs=ds.length→rdF F fs (cs.drop o) x→rdF F fs (ds.drop o) y→(Op.eqFields (d+D) cs.toArray ds.toArray ff).run P w= .ok (q x y) w|[],[],o,q,h,_,_,_,_=>by simp[Op.eqFields,h x y]|f::ff,k::fs,o,q,⟨h1,h2,h3,i,h4,q',h5,h6⟩,l1,l2,⟨c1,d1,e1,a1,b1⟩,⟨c2,d2,e2,a2,b2⟩=>(by subst h2;simp only[nF] at l1 l2;have p1:=nc h3 cs.toArray f.offset (by simp;omega) w;have p2:=nc h3 ds.toArray f.offset (by simp;omega) w;(have t1:(cs.drop f.offset).take k.K.n=c1:=by rw[e1,←k.K.len a1,Hh]);(have t2:(ds.drop f.offset).take k.K.n=c2:=by rw[e2,←k.K.len a2,Hh]);simp only[t1,t2] at p1 p2;have hq:=h4.eq (d:=d) (w:=w) ⟨c1,a1,rfl⟩ ⟨c2,a2,rfl⟩;(have e3:cs.drop (f.offset+k.K.n)=d1:=by rw[←GI,e1,←k.K.len a1,IS]);(have e4:ds.drop (f.offset+k.K.n)=d2:=by rw[←GI,e2,←k.K.len a2,IS]);have ih:=Ar (cs:=cs) (ds:=ds) h6 (by omega) (by omega) (by rw[e3];exact b1) (by rw[e4];exact b2) (d:=d) (w:=w);rw[h5];simp only[Op.eqFields,Gz h1,FV,p1,p2,hq,FQ];cases hxy:(k.get x==k.get y) with|false=>simp|true=>simp only[Gr,Hn,IC,GV];exact ih)|[],_::_,_,_,h,_,_,_,_=>h.elim|_::_,[],_,_,h,_,_,_,_=>h.elim
theorem EqK.st {β:Type} [BEq β] {T:TypeId} {fs:List (Fld β)} {ff:Array Field} {D:Nat} (hT:P.underlying T=some (.struct ff)) (hp:P.stoodInHeld T=false) (h:EqFs P D ff.toList fs 0 (λx y=>x==y)):EqK P T (kSt fs) (D+1):=⟨λ{d F v u x y w} h1 h2=>by obtain⟨e1,r1⟩:=ko h1 rfl;obtain⟨e2,r2⟩:=ko h2 rfl;(have hf:P.fieldsOf T=ff:=by simp[Program.fieldsOf,hT]);rw[e1,e2,show d+(D+1)=(d+D)+1 by omega,run_equalIn_struct w (d+D) T _ _ (by rw[hf];exact hT) hp,hf];exact Ar h (by rw[Gf];exact((kSt fs).len r1).symm) (by rw[Gf];exact((kSt fs).len r2).symm) (by rw[G9];exact r1) (by rw[G9];exact r2)⟩
inductive CvL:List SV→List SV→Prop where
 |nil:CvL [] []
 |sm {x:SV} {l l':List SV} (r:CvL l l'):CvL (x::l) (x::l')
 |rd {α:Type} {K:Kd α} {x:α} {s0:SV} {l l':List SV} (h:rdOf s0 K x) (r:CvL l l'):CvL (s0::l) (.val K x::l')
theorem CvL.oks:∀{l l':List SV} {vs:List Value},CvL l l'→SV.oks F vs l→SV.oks F vs l'|_,_,[],.nil,h=>h|_,_,_::_,.nil,h=>by simp only[SV.oks] at h|_,_,[],.sm r,h=>by simp only[SV.oks] at h|_,_,_::_,.sm r,h=>by simp only[SV.oks] at h⊢;exact⟨h.1,CvL.oks r h.2⟩|_,_,[],.rd q r,h=>by simp only[SV.oks] at h|_,_,_::_,.rd q r,h=>by simp only[SV.oks] at h⊢;exact⟨by simp only[SV.ok];exact q _ _ h.1,CvL.oks r h.2⟩
theorem M5 (c:CvL l l') (h:Ok P f l' L s L'):Ok P f l L s L':=λF w vs hv hS=>h F w vs (c.oks hv) hS
end
end Go.Sim
namespace Go.Sim
open Go
section
variable {P:Program} {ops:Array Oper} {Q:Exit→Act→World→Prop} {rest:List Oper} {F0:Fz} {n:Nat} {E:List (Nat×SV)} {L:List Res}
variable {d:Nat} {op:Op} {ty:TypeId} {pos:String} {aft:Array Edge} {s:SV}
def strB (xs:List Int):List Int:=xs.map λn=>((UInt8.ofNat n.toNat).toNat:Int)
theorem xd:∀(xs:List Int) (s:ByteArray),((xs.foldl (λr n=>r.push (UInt8.ofNat n.toNat)) s).data.toList.map λb=>(b.toNat:Int))=(s.data.toList.map λb=>(b.toNat:Int))++strB xs|[],s=>by simp[strB]|x::xs,s=>by simp only[GF];rw[xd xs];simp[strB,ByteArray.push]
theorem EY {F:Fz} {w:World} {xs:List Int} (hv:(kSl (kInt .u8)).val F v xs) (hw:∀b o,F.blk b=some o→w.heap[b]? =some o):(Conv.bytesToString v).run P w= .ok (.string (xs.foldl (λr n=>r.push (UInt8.ofNat n.toNat)) ByteArray.empty)) w:=by obtain⟨cs,⟨a,cap,rfl,hcap,r⟩,rfl⟩:=hv;cases a with|none=>(have:xs=[]:=by rcases r with r|⟨p,_,_,_,h,_⟩;exact Gb r;cases h);subst this;simp[pack,kSl,Conv.bytesToString]|some p=>refine run_bytesToString w p xs.length cap xs ?_;have:=run_loadCells_list (P:=P) w p (xs.map (Value.int .u8)) λj v hj=>?_;simpa using this;rw[HL] at hj;obtain⟨x,hx,rfl⟩:=Gs.1 hj;rcases r with r|⟨q,c,e,fr,hq,hp,hb,hle,hrd⟩;have:=Gb r;subst this;simp at hx;cases hq;obtain⟨b,o,sp⟩:=p;simp only at hp hb hle;subst hp;rw[Gp,Ib w b (o+j) c e fr (hw _ _ hb)];have h1:=vv hrd hx;(have hjl:j<xs.length*(kInt .u8).n:=by have:=(FN.1 hx).1;simp[kInt];omega);rw[Gc hjl,Gq] at h1;simpa using h1
theorem KD {xs:List Int} (hT:P.underlying T=some (.slice e)) (he:P.underlying e=some (.int .u8)) (hU:P.underlying U=some .string) (hX:ev E X=some s) (hr:rdOf s (kSl (kInt .u8)) xs):OpV P n E L ⟨some d,.convert T U X,ty,pos,aft,none⟩ (.val kStr (strB xs)):=λF a hE=>by have hv:=hr F _ (hE.eval hX);refine⟨.string (xs.foldl (λr n=>r.push (UInt8.ofNat n.toNat)) ByteArray.empty),by simp only[SV.ok];exact⟨[_],⟨_,rfl,by rw[xd];rfl⟩,rfl⟩,λw ⟨G,hg,hS⟩=>?_⟩;have hrun:=EY (P:=P) (hv.mono hg) hS.on.blk;obtain⟨cs,⟨ad,cap,rfl,_⟩,hval⟩:=hv;have hval:a.eval X= .slice ad xs.length cap:=hval;unfold Oper.quietAt;rw[hval] at hrun;(have hc:(convert T U (.slice ad xs.length cap)).run P w= .ok (.string (xs.foldl (λr n=>r.push (UInt8.ofNat n.toNat)) ByteArray.empty)) w:=by rw[run_convert_bytes_string w T U e ad _ cap hT he hU,hrun]);simp[execOp,hval,hc,Oper.quietUpon]
theorem D9 {w:World} {c:Array Value} (hb:w.heap[g]? =some (.cells c e (0,0))) (o:Nat):∃w',(markStringish ⟨g,o,none⟩).run P w= .ok () w'∧w'.heap[g]? =some (.cells c e (c.size,c.size+1))∧Chg w w' (Frag.one g (.cells c e (0,0))):=by have hlt:=fg hb;(have hsh:w.shape? g=some (e,c.size):=by simp[World.shape?,hb]);refine⟨w.freeze ⟨g,c.size,none⟩ 1,by simp[markStringish,hsh],?_,⟨rfl,rfl,rfl,λk hk hn=>?_⟩⟩;simp[World.freeze,HY,hb];(have hne:g≠k:=λh=>by subst h;rw[Ju] at hn;cases hn);simp[World.freeze,HY,hne]
theorem KW {K:Kd α} {xs:List α} (hT:P.underlying T=some (.slice e)) (he:P.underlying e=some (.int .u8)) (h0:0<xs.length) (hX:ev E X=some (.raw v)) (hd:Nat.blt d n=true) (k:Under F0 n ((d,.val (kSl K) xs)::E) L (wpList P ops Q rest)):Under F0 n E (.own K v e' xs::L) (wpList P ops Q (⟨some d,.convert T T X,ty,pos,aft,none⟩::rest)):=JE rfl λF a w hF0 hE hS=>by have hv:=hE.raw hX;obtain⟨h,hh,hon⟩:=hS.head;rcases hh with⟨rfl,rfl,_⟩|⟨g,cap,cur,rfl,rfl,h3,h4,h5,h6⟩;simp at h0;have hb:=hon g _ (Ju _ _);obtain⟨w',hrun,hb',hc⟩:=D9 (P:=P) hb 0;let o':Obj:= .cells cur e' (cur.size,cur.size+1);(have hap:F.blk g=none:=by obtain⟨h2,hh2,hap2,hs2⟩:=hS;(have h2g:h2 g≠none:=by rcases hh2 with⟨q,_⟩|⟨g',cap',cur',q,rfl,_⟩;cases q;simp only[Value.slice.injEq,Option.some.injEq,Addr.mk.injEq,IM,true_and] at q;obtain⟨rfl,_⟩:=q;rw[Ju];simp);exact hap2 g h2g);(have hS1:St F w' (.any (λq=>q=Frag.one g o')::L):=hS.turn λh2 hh2 hon2=>by rcases hh2 with⟨q,_⟩|⟨g',cap',cur',q,rfl,_⟩;cases q;simp only[Value.slice.injEq,Option.some.injEq,Addr.mk.injEq,IM,true_and] at q;obtain⟨rfl,rfl⟩:=q;have hb2:=hon2 g _ (Ju _ _);rw[hb] at hb2;have hq:=Option.some.inj hb2;simp only[Obj.cells.injEq,IM,true_and] at hq;subst hq;refine⟨Frag.one g o',rfl,hc,λk hk=> .inl ?_,λk o eo=>?_⟩;by_cases hkb:k=g;subst hkb;rw[Ju];simp;exact absurd (JZ _ hkb) hk;obtain⟨rfl,rfl⟩:=JT eo;exact hb');obtain⟨f,hf,hap1,hle,hS2⟩:=hS1.freeze;have hf:f=Frag.one g o':=hf;subst hf;(have hconv:(convert T T (.slice (some ⟨g,0,none⟩) xs.length cap)).run P w= .ok (.slice (some ⟨g,0,none⟩) xs.length cap) w':=by simp[convert,FY hT,FY he,hrun]);unfold Oper.wp;simp only[execOp,hv,FV,hconv,FQ,F3,Oper.upon];refine k _ _ _ (Ki hF0 hle) ((hE.mono hle).put hd ?_) hS2;simp only[SV.ok];refine⟨[.slice (some ⟨g,0,none⟩) xs.length cap],⟨_,cap,rfl,h3,.inr ⟨⟨g,0,none⟩,cur,e',(cur.size,cur.size+1),rfl,rfl,?_,?_,by simpa using h6.mono hle⟩⟩,rfl⟩;simp only[Fz.add,hap];exact Ju _ _;have:xs.length*K.n≤cap*K.n:=FS _ h3;simp only;omega
end
end Go.Sim
namespace Go.Sim
open Go
end Go.Sim
namespace Go.Sim
open Go
def mdel {α β:Type} [BEq α] (x:α):List (α×β)→List (α×β)|[]=>[]|p::ps=>bif x==p.1 then ps else p::mdel x ps
theorem xe [BEq α]:∀{ps:List (α×β)} {i:Nat},mpos x ps i=none→mdel x ps=ps|[],_,_=>rfl|p::ps,i,h=>by cases hxy:(x==p.1) with|true=>simp[mpos,hxy] at h|false=>simp only[mpos,hxy,FI] at h;simp[mdel,hxy,xe h]
theorem BN [BEq α]:∀{es:List MapEntry} {ps:List (α×β)} {i j:Nat},rdM K V F es ps→mpos x ps i=some (i+j)→rdM K V F (es.eraseIdx j) (mdel x ps)|e::es,p::ps,i,j,⟨a,b,c⟩,h=>(by cases hxy:(x==p.1) with|true=>simp only[mpos,hxy,FJ,Option.some.injEq] at h;(have:j=0:=by omega);subst this;simpa[mdel,hxy] using c|false=>simp only[mpos,hxy,FI] at h;have:=tO h;cases j with|zero=>omega|succ j=>simp only[mdel,hxy,FI,List.eraseIdx_cons_succ];exact⟨a,b,BN (i:=i+1) c (by rw[h];congr 1;omega)⟩)|[],[],i,j,_,h=>by cases h|[],_::_,_,_,h,_=>h.elim|_::_,[],_,_,h,_=>h.elim
theorem CT {es es':Array MapEntry} (h:Stamp es clock) (hs:List.Sublist es'.toList es.toList):Stamp es' clock:=⟨λe he=>h.1 e (hs.subset he),h.2.sublist (hs.map _)⟩
theorem As {K:Kd α} {V:Kd β} {e:MapEntry}:∀{es:List MapEntry} {ps:List (α×β)},rdM K V F es ps→(es.map (·.born)).Nodup→e∈es→∃p qs,ps.Perm (p::qs)∧K.val F e.key p.1∧V.val F e.val p.2∧rdM K V F (es.filter λx=>x.born != e.born) qs|[],_,_,_,he=>by cases he|x::es,[],h,_,_=>h.elim|x::es,p::ps,⟨a,b,c⟩,hn,he=>by have hn':=Hq.1 hn;by_cases hx:x=e;subst hx;(have hall:es.filter (λy=>y.born != x.born)=es:=Ix.2 λy hy=>by have:y.born≠x.born:=λh=>hn'.1 (Gu.2 ⟨y,hy,h⟩);simpa using this);exact⟨p,ps,List.Perm.refl _,a,b,by rw[I8];simp[hall];exact c⟩;(have hm:e∈es:=by rcases Gl.1 he with h|h;exact absurd h.symm hx;exact h);have hb:x.born≠e.born:=λh=>hn'.1 (Gu.2 ⟨e,hm,h.symm⟩);obtain⟨q,qs,h1,h2,h3,h4⟩:=As c hn'.2 hm;refine⟨q,p::qs,(List.Perm.cons p h1).trans (List.Perm.swap _ _ _),h2,h3,?_⟩;rw[I8,Gz (by simpa using hb)];exact⟨a,b,h4⟩
theorem Au {w:World} {seen:Array Nat} {es:Array MapEntry} (hr:w.heap[r]? =some (.mapIter (some bm) since seen c0)) (hb:w.heap[bm]? =some (.map es clock)) (hold:∀x∈es.toList,x.born<since) (hsc:since≤c0):(leftOf es seen=#[]∧(Instr.next (.pointer (some ⟨r,0,none⟩)) false ty).run P w= .ok (.tuple #[.bool false]) w)∨∃e∈(leftOf es seen).toList,∃w1:World,(w1=w∨w1=w.drew)∧(Instr.next (.pointer (some ⟨r,0,none⟩)) false ty).run P w= .ok (.tuple #[.bool true,e.key,e.val]) {w1 with heap:=w1.heap.setIfInBounds r (.mapIter (some bm) since (seen.push e.born) clock)}:=by simp only[Instr.next,getObj,FV,Sem.run,hr,hb,Result.andThen,next_test_false seen es since c0 hold hsc,Hn,IC];unfold leftOf;have hmem:∀x∈(Array.filter (λe=> !seen.contains e.born) es).toList,x.born<since:=λx hx=>hold x (by simp at hx⊢;exact hx.1);generalize Array.filter (λe=> !seen.contains e.born) es=L at hmem⊢;have e1:L.filter (λx=>decide (x.born<since))=L:=Array.filter_eq_self.2 (λx hx=>by simpa using hmem x (by simpa using hx));(have e2:L.filter (λx=>decide (x.born≥since))=#[]:=by rw[Array.filter_eq_empty_iff];intro x hx;have:=hmem x (by simpa using hx);simp;omega);simp only[e1,e2,Ie];by_cases h0:L.size=0;left;have:L=#[]:=Array.eq_empty_of_size_eq_zero h0;subst this;refine⟨rfl,?_⟩;simp[choose,Sem.run,Question.forced];right;(have hne:L.isEmpty=false:=by simp[Array.isEmpty,h0]);simp only[hne,Hn,IC,Hy,Array.size_map];(have hch:∃(j:Nat) (w1:World),j<L.size∧(w1=w∨w1=w.drew)∧(choose (Question.mapNext L.size)).run P w= .ok j w1:=by by_cases hf:L.size≤1;exact⟨0,w,by omega,.inl rfl,by simp[choose,Sem.run,Question.forced,hf]⟩;exact⟨_,w.drew,I0 _ (by omega),.inr rfl,by simp only[choose,Sem.run,Question.forced,FX,hf,IC,Question.cut];rfl⟩);obtain⟨j,w1,hj,hal,hrun⟩:=hch;refine⟨L[j],by simp,w1,hal,?_⟩;(have hr1:w1.heap[r]? =some (.mapIter (some bm) since seen c0):=by rcases hal with rfl|rfl<;>exact hr);(have hset:∀o':Obj,(setObj r o').run P w1= .ok () {w1 with heap:=w1.heap.setIfInBounds r o'}:=λo'=>by simp only[setObj,Sem.run,hr1]);simp only[hrun,Array.getElem?_map,GT hj,HO,FV,hset,Result.andThen];rfl
noncomputable def yu {γ S R:Type} (ps:List γ) (f:γ→S→Option S) (k:S→Option R) (s0:S):Option R:=open Classical in if h:∃r,∀qs:List γ,qs.Perm ps→(qs.foldlM (λs q=>f q s) s0).bind k=some r then some h.choose else none
noncomputable def qu {γ S R:Type} (ps:List γ) (f:γ→S→Option S) (k:S→Option R) (s0:S):Option R:=match ps with|[]=>k s0|p::ps=>yu (p::ps) f k s0
theorem Av {γ S R:Type} {ps:List γ} {f:γ→S→Option S} {k:S→Option R} {s0:S} {r:R} (h:qu ps f k s0=some r) (qs:List γ) (hq:qs.Perm ps):(qs.foldlM (λs q=>f q s) s0).bind k=some r:=by cases ps with|nil=>cases hq.eq_nil;exact h|cons p ps=>simp only[qu,yu] at h;split at h;rename_i hx;cases h;exact hx.choose_spec qs hq;cases h
theorem xf {γ S R:Type} {ps:List γ} {f:γ→S→Option S} {k:S→Option R} {s0:S} {r:R} (h:∀qs:List γ,qs.Perm ps→(qs.foldlM (λs q=>f q s) s0).bind k=some r):qu ps f k s0=some r:=by cases ps with|nil=>exact h [] (List.Perm.refl _)|cons p ps=>simp only[qu,yu];have hx:∃r,∀qs:List γ,qs.Perm (p::ps)→(qs.foldlM (λs q=>f q s) s0).bind k=some r:=⟨r,h⟩;rw[dif_pos hx];have a:=hx.choose_spec (p::ps) (List.Perm.refl _);rw[h (p::ps) (List.Perm.refl _)] at a;exact a.symm
theorem yv (I:Nat→Act→World→Prop) {c:Code} (round:∀k a w,I k a w→c.wp P (Exit.then (λa' w'=>∃k',k'<k∧I k' a' w') Q) a w) (h0:I k a w):(Code.loop c).wp P Q a w:=by intro b kk cs;(have key:∀k a w,I k a w→∃e a' w',Q e a' w'∧Arrives P (lone (b.at a (.code c:: .inLoop c::kk)) cs w) b kk cs e a' w':=by intro k;induction k using Nat.strongRecOn with|_ k ih=>intro a w hI;obtain⟨e,a₁,w₁,hq,harr⟩:=round k a w hI b (.inLoop c::kk) cs;cases e with|normal=>obtain⟨k',hlt,hI₁⟩:=hq;obtain⟨e₂,a₂,w₂,hq₂,harr₂⟩:=ih k' hlt a₁ w₁ hI₁;exact⟨e₂,a₂,w₂,hq₂,.of_steps (Steps.trans harr (.one step_inLoop)) harr₂⟩|exit id=>exact⟨_,a₁,w₁,hq,.pass (x:= .inLoop c) rfl (λ_ _=> .inl (by simp)) harr⟩|goto l=>exact⟨_,a₁,w₁,hq,.pass (x:= .inLoop c) rfl (λ_ _=> .inl (by simp)) harr⟩|ret=>exact⟨_,a₁,w₁,hq,.pass (x:= .inLoop c) rfl (λ_ _=> .inl (by simp)) harr⟩|panic ch=>exact⟨_,a₁,w₁,hq,.pass (x:= .inLoop c) rfl (λ_ _=> .inl (by simp)) harr⟩|outgrown=>exact⟨_,a₁,w₁,hq,.pass (x:= .inLoop c) rfl (λ_ _=> .inl (by simp)) harr⟩);obtain⟨e,a',w',hq,harr⟩:=key k a w h0;exact⟨e,a',w',hq,.of_steps (.one step_loop) harr⟩
section
variable {P:Program} {ops:Array Oper} {Q:Exit→Act→World→Prop} {rest:List Oper} {F0:Fz} {n:Nat} {E:List (Nat×SV)} {L:List Res}
variable {d:Nat} {op:Op} {ty:TypeId} {pos:String} {aft:Array Edge} {s:SV}
def EndM {α β S C:Type} (F0:Fz) (n:Nat) (K:Kd α) (V:Kd β) (it:Nat) (f:α×β→S→Option S) (Es:S→C→List (Nat×SV)) (Ls:S→C→List Res) (x:S) (left:List (α×β)):Act→World→Prop:=λa w=>∃x' y' F p left' cur',left.Perm (p::left')∧f p x=some x'∧F0≤F∧Env F a n (Es x' y')∧St F w (.itr K V it left' cur'::Ls x' y')
theorem Lj {ps:List (α×β)} {c:Code} (c0:C) (Es:S→C→List (Nat×SV)) (Ls:S→C→List Res) (hrun:qu ps f k x0=some r)
   (hE:∀t v,look (Es x0 c0) t=some v→look E t=some v) (hL:L= .itr K V it ps none::Ls x0 c0)
   (round:∀x y left cur,(left=[]→k x=some r)→(∀p left',left.Perm (p::left')→∃x',f p x=some x')→Under F0 n (Es x y) (.itr K V it left cur::Ls x y) (c.wp P (Exit.then (EndM F0 n K V it f Es Ls x left) Q))):
   Under F0 n E L ((Code.loop c).wp P Q):=λF a w h0 hE' hS=>by
 refine yv (λm a w=>∃x y left cur F,left.length=m∧(∀qs:List (α×β),qs.Perm left→(qs.foldlM (λs q=>f q s) x).bind k=some r)∧F0≤F∧Env F a n (Es x y)∧St F w (.itr K V it left cur::Ls x y)) ?_ (k:=ps.length) ⟨x0,c0,ps,none,F,rfl,Av hrun,h0,hE'.sub hE,hL▸hS⟩
 rintro m a w ⟨x,y,left,cur,F,hm,hall,h0,hE,hS⟩
 refine wp_mono (round x y left cur (λhl=>?_) (λp left' hp=>?_) F a w h0 hE hS) (λe a w q=>?_)
 · subst hl
   have:=hall [] (List.Perm.refl _)
   simpa using this
 · have:=hall (p::left') hp.symm
   rw[IZ] at this
   cases hf:f p x with
   |none=>rw[hf] at this;simp at this
   |some x'=>exact⟨x',rfl⟩
 · cases e with
   |normal=>
    obtain⟨x',y',F,p,left',cur',hp,hf,h1,h2,h3⟩:=q
    refine⟨left'.length,?_,x',y',left',cur',F,rfl,λqs hq=>?_,h1,h2,h3⟩
    · have:=hp.length_eq;simp at this;omega
    · have:=hall (p::qs) ((List.Perm.cons p hq).trans hp.symm)
      rw[IZ,hf] at this
      simpa using this
   |_=>exact q
theorem Lk {left:List (α×β)} (x':S) (y':C) (hp:left.Perm (p::left')) (hf:f p x=some x1) (ho:(some x':Option S)=some x1) (hE:∀t v,look (Es x' y') t=some v→look E t=some v) (hL:L= .itr K V it left' cur'::Ls x' y'):Under F0 n E L (EndM F0 n K V it f Es Ls x left):=λF a w h0 hE' hS=>⟨x',y',F,p,left',cur',hp,by rw[hf];exact ho.symm,h0,hE'.sub hE,hL▸hS⟩
theorem Under.mdel {α β:Type} [BEq α] {K:Kd α} {V:Kd β} {T t2 kt et:TypeId} {b:Nat} {ps:List (α×β)} {M X:Operand} {x:α} {s1:SV} (hk:KeyK P kt K) (hT:P.underlying T=some (.map kt et)) (hM:ev E M=some (.raw (.map (some b)))) (hX:ev E X=some s1) (h1:rdOf s1 K x) (k:Under F0 n E (.mp K V b (mdel x ps)::L) (wpList P ops Q rest)):Under F0 n E (.mp K V b ps::L) (wpList P ops Q (⟨none,.call ⟨.builtin .delete,#[M,X],#[T,t2]⟩,ty,pos,aft,none⟩::rest)):=JE rfl λF a w h0 hE hS=>by obtain⟨h,⟨es,clock,⟨hrd,hst⟩,rfl⟩,hon⟩:=hS.head;have hb:w.heap[b]? =some (.map es clock):=hon b _ (Ju _ _);have v1:=h1 F _ (hE.eval hX);(have hrun:∃es',(Builtin.delete_ #[T,t2] ty #[.map (some b),a.eval X]).run P w= .ok (.tuple #[]) {w with heap:=w.heap.setIfInBounds b (.map es' clock)}∧rdM K V F es'.toList (Go.Sim.mdel x ps)∧Stamp es' clock:=by have hc:=λbb=>hk.chk (b:=bb) (w:=w) v1;rcases eT hk v1 (w:=w) (i:=0) hrd with⟨a1,a2,a3⟩|⟨j,e,a1,a2,a3,a4,q,a5,a6⟩;refine⟨es,?_,by rw[xe a1];exact hrd,hst⟩;simp[Builtin.delete_,FY hT,GH (P:=P) hb,hc,hk.find a3,He (P:=P) _ hb];simp only[Gf] at a3 a1;refine⟨es.eraseIdxIfInBounds j,?_,?_,CT hst ?_⟩;simp[Builtin.delete_,FY hT,GH (P:=P) hb,hc,hk.find a3,He (P:=P) _ hb];rw[Array.toList_eraseIdxIfInBounds];exact BN (i:=0) hrd (by rw[a1,Gf]);rw[Array.toList_eraseIdxIfInBounds];exact List.eraseIdx_sublist _ _);obtain⟨es',hr,hrd',hst'⟩:=hrun;(have hS':St F {w with heap:=w.heap.setIfInBounds b (.map es' clock)} (.mp K V b (Go.Sim.mdel x ps)::L):=by refine hS.turn λh hh hon=>?_;obtain⟨es0,clock0,_,rfl⟩:=hh;have hlt:=fg hb;refine⟨Frag.one b (.map es' clock),⟨es',clock,⟨hrd',hst'⟩,rfl⟩,⟨rfl,rfl,rfl,λq _ hq=>?_⟩,λq hq=> .inl ?_,λq o ho=>?_⟩;(have hne:b≠q:=λe=>by subst e;rw[Ju] at hq;cases hq);exact GG hne;by_cases hqb:q=b;subst hqb;rw[Ju];simp;exact absurd (JZ _ hqb) hq;obtain⟨rfl,rfl⟩:=JT ho;exact Gj hlt);unfold Oper.wp;simp[execOp,resolve,invoke,builtin,hE.raw hM,hr,Oper.upon];exact k F _ _ h0 hE hS'
theorem Under.rng (hT:P.underlying T=some (.map kt et)) (hX:ev E X=some (.val (kMap K V) ps)) (hd:Nat.blt d n=true) (k:∀b,Under F0 n ((d,.raw (.pointer (some ⟨b,0,none⟩)))::E) (.itr K V b ps none::L) (wpList P ops Q rest)):Under F0 n E L (wpList P ops Q (⟨some d,.range T X,ty,pos,aft,none⟩::rest)):=JE rfl λF a w h0 hE hS=>by have hv:=hE.eval hX;simp only[SV.ok] at hv;obtain⟨cs,h,hv3⟩:=hv;(have fin:∀o:Obj,itH K V F w.heap.size ps none (Frag.one w.heap.size o)→(Instr.range T (a.eval X)).run P w= .ok (.pointer (some ⟨w.heap.size,0,none⟩)) (w.alloc o)→Oper.wp P ⟨some d,.range T X,ty,pos,aft,none⟩ a w (wpList P ops Q rest) Q:=λo ho hr=>by obtain⟨hn1,hn2⟩:=kY w o;have hS':St F (w.alloc o) (.itr K V w.heap.size ps none::L):=KU hS (Frag.one w.heap.size o) ho (jU w _) hn1 hn2;unfold Oper.wp;simp only[execOp,hr,FV,FQ,F3,Oper.upon];exact k _ F _ _ h0 (hE.put hd (by simp only[SV.ok])) hS');rcases h with⟨rfl,rfl⟩|⟨b,es,clock,rfl,hb,hrd,hst⟩;refine fin (.mapIter none 0 #[] 0) (.inl ⟨rfl,rfl,rfl⟩) ?_;have hv2:a.eval X= .map none:=hv3;rw[hv2];exact run_range_nilMap w T kt et hT;have hv2:a.eval X= .map (some b):=hv3;refine fin (.mapIter (some b) clock #[] clock) (.inr ⟨b,es,clock,#[],hb,hst,?_,rfl,λp hp=>by cases hp⟩) ?_;(have:es.toList.filter (λe=> !(#[]:Array Nat).contains e.born)=es.toList:=Ix.2 λe _=>by simp);rw[this];exact hrd;rw[hv2];exact run_range_map w T kt et b es clock hT (hS.on.blk _ _ hb)
theorem LR {left:List (α×β)} (hX:ev E X=some (.raw (.pointer (some ⟨b,0,none⟩)))) (hd:Nat.blt d n=true) (kend:left=[]→Under F0 n ((d,.tup [.raw (.bool false)])::E) (.itr K V b left cur::L) (wpList P ops Q rest)) (kpick:∀p left',left.Perm (p::left')→Under F0 n ((d,.tup [.raw (.bool true),.val K p.1,.val V p.2])::E) (.itr K V b left' (some p)::L) (wpList P ops Q rest)):Under F0 n E (.itr K V b left cur::L) (wpList P ops Q (⟨some d,.next X false,ty,pos,aft,none⟩::rest)):=JE rfl λF a w h0 hE hS=>by obtain⟨h,hh,hon⟩:=hS.head;have hh0:=hh;rcases hh with⟨rfl,rfl,rfl⟩|⟨m,es,clock,seen,hb,hst,hrd,rfl,hc⟩;have hb:w.heap[b]? =some (.mapIter none 0 #[] 0):=hon b _ (Ju _ _);(have hr:(Instr.next (.pointer (some ⟨b,0,none⟩)) false ty).run P w= .ok (.tuple #[.bool false]) w:=by simp only[Instr.next,getObj,FV,Sem.run,hb,Result.andThen];rfl);unfold Oper.wp;simp only[execOp,hE.raw hX,hr,FV,FQ,F3,Oper.upon];exact kend rfl F _ _ h0 (hE.put hd (by simp only[SV.ok,SV.oks];exact⟨[_],rfl,rfl,trivial⟩)) hS;have hbi:w.heap[b]? =some (.mapIter (some m) clock seen clock):=hon b _ (Ju _ _);have hbm:=hS.on.blk _ _ hb;rcases Au (P:=P) (ty:=ty) hbi hbm hst.1 (F9 _) with⟨h1,hr⟩|⟨e,he,w1,hw1,hr⟩;(have hl0:es.toList.filter (λe=> !seen.contains e.born)=[]:=by have:=congrArg Array.toList h1;simpa[leftOf] using this);(have hleft:left=[]:=by rw[hl0] at hrd;cases left with|nil=>rfl|cons p l=>exact hrd.elim);unfold Oper.wp;simp only[execOp,hE.raw hX,hr,FV,FQ,F3,Oper.upon];exact kend hleft F _ _ h0 (hE.put hd (by simp only[SV.ok,SV.oks];exact⟨[_],rfl,rfl,trivial⟩)) hS;have hel:=mem_left he;have hlf:e∈es.toList.filter (λe=> !seen.contains e.born):=Hg.2 ⟨hel.1,by rw[hel.2];rfl⟩;have hnd:((es.toList.filter (λe=> !seen.contains e.born)).map (·.born)).Nodup:=hst.2.sublist ((Jf).map _);obtain⟨p,qs,hp,hk1,hv1,hrd'⟩:=As hrd hnd hlf;(have hrd2:rdM K V F (es.toList.filter λx=> !(seen.push e.born).contains x.born) qs:=by(have:es.toList.filter (λx=> !(seen.push e.born).contains x.born)=(es.toList.filter (λe=> !seen.contains e.born)).filter λx=>x.born != e.born:=by rw[List.filter_filter];refine List.filter_congr λx _=>?_;rw[contains_push];cases seen.contains x.born<;>cases hxx:(x.born==e.born)<;>simp_all);rw[this];exact hrd');(have hS1:St F w1 (.itr K V b left cur::L):=by rcases hw1 with rfl|rfl;exact hS;exact StG.drew hS);(have hbi1:w1.heap[b]? =some (.mapIter (some m) clock seen clock):=by rcases hw1 with rfl|rfl<;>exact hbi);(have hS':St F {w1 with heap:=w1.heap.setIfInBounds b (.mapIter (some m) clock (seen.push e.born) clock)} (.itr K V b qs (some p)::L):=by refine hS1.turn λh hh hon=>?_;have hlt:=fg hbi1;(have hbh:∀q,h q≠none↔q=b:=by(have:∃o,h=Frag.one b o:=by rcases hh with⟨_,_,rfl⟩|⟨_,_,_,_,_,_,_,rfl,_⟩<;>exact⟨_,rfl⟩);obtain⟨o,rfl⟩:=this;intro q;by_cases hqb:q=b;subst hqb;rw[Ju];simp;rw[JZ _ hqb];simp[hqb]);refine⟨Frag.one b (.mapIter (some m) clock (seen.push e.born) clock),.inr ⟨m,es,clock,seen.push e.born,hb,hst,hrd2,rfl,λp' hp'=>?_⟩,⟨rfl,rfl,rfl,λq _ hq=>?_⟩,λq hq=> .inl ?_,λq o ho=>?_⟩;cases hp';exact⟨e,seen,rfl,hel.1,hk1,hv1⟩;(have hne:b≠q:=λe=>by subst e;exact absurd hq ((hbh b).2 rfl));exact GG hne;by_cases hqb:q=b;exact(hbh q).2 hqb;exact absurd (JZ _ hqb) hq;obtain⟨rfl,rfl⟩:=JT ho;exact Gj hlt);unfold Oper.wp;simp only[execOp,hE.raw hX,hr,FV,FQ,F3,Oper.upon];exact kpick p qs hp F _ _ h0 (hE.put hd (by simp only[SV.ok,SV.oks];exact⟨[_,_,_],rfl,rfl,hk1,hv1,trivial⟩)) hS'
theorem LS {p:α×β} (hX:ev E X=some (.raw (.pointer (some ⟨b,0,none⟩)))) (hd:Nat.blt d n=true) (k:Under F0 n ((d,.tup [.val K p.1,.val V p.2])::E) (.itr K V b left (some p)::L) (wpList P ops Q rest)):Under F0 n E (.itr K V b left (some p)::L) (wpList P ops Q (⟨some d,.entry X,ty,pos,aft,none⟩::rest)):=JE rfl λF a w h0 hE hS=>by obtain⟨h,hh,hon⟩:=hS.head;rcases hh with⟨_,hx,_⟩|⟨m,es,clock,seen,hb,hst,hrd,rfl,hc⟩;cases hx;obtain⟨e,seen',rfl,he,hk1,hv1⟩:=hc p rfl;have hbi:w.heap[b]? =some (.mapIter (some m) clock (seen'.push e.born) clock):=hon b _ (Ju _ _);have hbm:=hS.on.blk _ _ hb;(have hf:es.find? (·.born==e.born)=some e:=by rw[←Array.find?_toList];exact find_born e es.toList hst.2 he);(have hr:(Instr.entry (.pointer (some ⟨b,0,none⟩))).run P w= .ok (.tuple #[e.key,e.val]) w:=by simp only[Instr.entry,getObj,FV,Sem.run,hbi,hbm,Result.andThen,Array.back?_push,F4,Hn,IC,hf];rfl);unfold Oper.wp;simp only[execOp,hE.raw hX,hr,FV,FQ,F3,Oper.upon];exact k F _ _ h0 (hE.put hd (by simp only[SV.ok,SV.oks];exact⟨[_,_],rfl,hk1,hv1,trivial⟩)) hS
end
end Go.Sim
namespace Go.Sim
open Go
def frU (h1 h2:Frag):Frag:=λb=>match h1 b with|some o=>some o|none=>h2 b
theorem BO (F:Fz) (h1 h2:Frag):(F.add h1).add h2=F.add (frU h1 h2):=by simp only[Fz.add,frU,Fz.mk.injEq,IM];funext b;cases F.blk b with|some o=>simp|none=>cases h1 b<;>simp
theorem Bf:frU h1 h2 b≠none↔h1 b≠none∨h2 b≠none:=by unfold frU;cases h1 b<;>simp
def bunH (F:Fz):List Res→Frag→Prop|[],h=>h=Frag.emp|r::rs,h=>∃h1 h2,r.holds F h1∧bunH F rs h2∧(∀b,h2 b≠none→h1 b=none)∧h=frU h1 h2
theorem Lz:∀{rs:List Res} {F:Fz},StG G F w (rs++L)→∃h,bunH G rs h∧Apart F h∧StG G (F.add h) w L|[],F,hs=>⟨Frag.emp,rfl,λb hb=>absurd rfl hb,by rw[Kq];exact hs⟩|r::rs,F,⟨h1,a,b,c⟩=>by obtain⟨h2,x,y,z⟩:=Lz (rs:=rs) c;refine⟨frU h1 h2,⟨h1,h2,a,x,λq hq=>(Kf.1 (y q hq)).2,rfl⟩,λq hq=>?_,by rw[←BO];exact z⟩;rcases Bf.1 hq with h|h;exact b q h;exact(Kf.1 (y q h)).1
theorem Ll:∀{rs:List Res} {F:Fz} {h:Frag},bunH G rs h→Apart F h→StG G (F.add h) w L→StG G F w (rs++L)|[],F,h,e,_,hs=>by cases e;rw[Kq] at hs;exact hs|r::rs,F,h,⟨h1,h2,a,x,y,e⟩,ha,hs=>by subst e;rw[←BO] at hs;refine⟨h1,a,λq hq=>ha q (Bf.2 (.inl hq)),Ll (rs:=rs) x (λq hq=>Kf.2 ⟨ha q (Bf.2 (.inr hq)),y q hq⟩) hs⟩
def Free {α:Type} (K:Kd α):Prop:=∀F G cs x,K.rd F cs x→K.rd G cs x
theorem qv {α:Type} {K:Kd α} (hK:Free K) {F G:Fz}:∀{xs:List α} {cs:List Value},bi K F cs xs→bi K G cs xs|[],_,h=>h|x::xs,cs,⟨c,d,e,h,r⟩=>⟨c,d,e,hK _ _ _ _ h,qv hK r⟩
theorem rx {α:Type} {K:Kd α} (hK:Free K) {F G:Fz} {v:Value} {e:TypeId} {xs:List α} {h:Frag} (hh:(Res.own K v e xs).holds F h):(Res.own K v e xs).holds G h:=by rcases hh with hh|⟨g,cap,cur,a1,a2,a3,a4,a5,a6⟩;exact .inl hh;exact .inr ⟨g,cap,cur,a1,a2,a3,a4,a5,qv hK a6⟩
theorem Free.int:Free (kInt k):=λ_ _ _ _ h=>h
def Kk:=@Free.int
theorem Free.raw:Free kRaw:=λ_ _ _ _ h=>h
theorem Free.arr {α:Type} {K:Kd α} {m:Nat} (h:Free K):Free (kArr m K):=λ_ _ _ _ ⟨a,b⟩=>⟨a,qv h b⟩
theorem LA {f g:Fld β} (hf:Free f.K) (hg:Free g.K):Free (kSt [f,g]):=λF G cs x ⟨c,d,e,h,c2,d2,e2,h2,r⟩=>⟨c,d,e,hf _ _ _ _ h,c2,d2,e2,hg _ _ _ _ h2,r⟩
section
variable {β γ τ:Type} (KR:Kd γ) (KT:Kd τ) (mk:β→Value→γ) (tg:β→List τ) (TE TT:TypeId)
def owns (xs:List β) (qs:List Value):List Res:=List.zipWith (λx q=>Res.own KT q TT (tg x)) xs qs
def lF (v:Value) (xs:List β):Frag→Prop:=λh=>∃(F:Fz) (qs:List Value),qs.length=xs.length∧bunH F (.own KR v TE (List.zipWith mk xs qs)::owns KT tg TT xs qs) h
abbrev nh (v:Value) (xs:List β):Res:= .any (lF KR KT mk tg TE TT v xs)
end
section
variable {P:Program} {ops:Array Oper} {Q:Exit→Act→World→Prop} {rest:List Oper} {F0:Fz} {n:Nat} {E:List (Nat×SV)} {L:List Res}
variable {d:Nat} {op:Op} {ty:TypeId} {pos:String} {aft:Array Edge} {s:SV}
variable {β γ τ:Type} {KR:Kd γ} {KT:Kd τ} {mk:β→Value→γ} {tg:β→List τ} {TE TT:TypeId} {v:Value} {xs:List β}
theorem xg (hT:Free KT):∀{xs:List β} {qs:List Value} {h:Frag},bunH F (owns KT tg TT xs qs) h→bunH G (owns KT tg TT xs qs) h|[],qs,h,hh=>(show h=Frag.emp from hh)|_::_,[],h,hh=>(show h=Frag.emp from hh)|x::xs,q::qs,h,⟨h1,h2,a,b,c,e⟩=>⟨h1,h2,rx hT a,xg hT (xs:=xs) (qs:=qs) b,c,e⟩
theorem St.manyOpen (hR:Free KR) (hT:Free KT) (hs:St F w (nh KR KT mk tg TE TT v xs::L)):∃qs,qs.length=xs.length∧St F w (.own KR v TE (List.zipWith mk xs qs)::(owns KT tg TT xs qs++L)):=by obtain⟨h,⟨F',qs,hl,h1,h2,a,b,c,e⟩,hap,hs'⟩:=hs;exact⟨qs,hl,Ll (rs:= .own KR v TE (List.zipWith mk xs qs)::owns KT tg TT xs qs) ⟨h1,h2,rx hR a,xg hT b,c,e⟩ hap hs'⟩
theorem Km {qs:List Value} (hl:qs.length=xs.length) (hs:St F w (.own KR v TE (List.zipWith mk xs qs)::(owns KT tg TT xs qs++L))):St F w (nh KR KT mk tg TE TT v xs::L):=by obtain⟨h,hb,hap,hs'⟩:=Lz (rs:= .own KR v TE (List.zipWith mk xs qs)::owns KT tg TT xs qs) hs;exact⟨h,⟨F,qs,hl,hb⟩,hap,hs'⟩
theorem LF (k:Under F0 n E (nh KR KT mk tg TE TT (.slice none 0 0) ([]:List β)::L) X):Under F0 n E L X:=λF a w h0 hE hS=>by refine k F a w h0 hE (Km (qs:=[]) rfl ?_);refine⟨Frag.emp,.inl ⟨rfl,rfl,rfl⟩,λb hb=>absurd rfl hb,?_⟩;rw[Kq];exact hS
theorem zip_push.{u} {ε:Type u} (f:β→Value→ε):∀{xs:List β} {qs:List Value} {x:β} {q:Value},qs.length=xs.length→List.zipWith f (xs++[x]) (qs++[q])=List.zipWith f xs qs++[f x q]|[],[],_,_,_=>rfl|x::xs,q::qs,y,p,h=>by simp only[G5,List.zipWith_cons_cons];rw[zip_push f (by simpa using h)]|[],_::_,_,_,h=>by simp at h|_::_,[],_,_,h=>by simp at h
theorem Kb {z:γ} {bytes:Nat} {t u:TypeId} {S V:Operand} {x:β} {q:Value} {zs:List β} (hR:Free KR) (hT':Free KT) (hz:Go.Sim.app xs [x]=some zs) (hT:P.underlying t=some (.slice TE)) (hu:srcT P u=true) (he:AT P TE KR z bytes) (hS:ev E S=some (.raw v)) (hV:ev E V=some s) (hr:Src P s KR [mk x q]) (hd:Nat.blt d n=true) (k:∀v',Under F0 n ((d,.raw v')::E) (nh KR KT mk tg TE TT v' zs::L) (wpList P ops Q rest)):Under F0 n E (nh KR KT mk tg TE TT v xs:: .own KT q TT (tg x)::L) (wpList P ops Q (⟨some d,.call ⟨.builtin .append,#[S,V],#[t,u]⟩,ty,pos,aft,none⟩::rest)):=λF a w h0 hE hSt=>by obtain⟨qs,hl,hS2⟩:=hSt.manyOpen hR hT';obtain⟨hroom,rfl⟩:=vr hz;(have hz2:Go.Sim.app (List.zipWith mk xs qs) [mk x q]=some (List.zipWith mk xs qs++[mk x q]):=by(have hlen:(List.zipWith mk xs qs).length=xs.length:=by simp[hl]);have:=hz;simp only[Go.Sim.app];rw[Gz];rw[hlen];simpa using hroom);refine Lv (L:=owns KT tg TT xs qs++.own KT q TT (tg x)::L) hz2 hT hu he hS hV hr hd (λv' F a w h0 hE hS3=>?_) F a w h0 hE hS2;refine k v' F a w h0 hE (Km (qs:=qs++[q]) (by simp[hl]) ?_);rw[zip_push mk hl];have e:owns KT tg TT (xs++[x]) (qs++[q])=owns KT tg TT xs qs++[.own KT q TT (tg x)]:=zip_push _ hl;rw[e];simpa using hS3
theorem xh {KB:Kd β} (hcv:∀x q,(kSl KT).val F q (tg x)→∀cs,KR.rd F cs (mk x q)→KB.rd F cs x):∀{xs:List β} {qs:List Value} {cs:List Value},qs.length=xs.length→(∀p∈List.zip xs qs,(kSl KT).val F p.2 (tg p.1))→bi KR F cs (List.zipWith mk xs qs)→bi KB F cs xs|[],[],_,_,_,h=>h|x::xs,q::qs,cs,hl,hv,⟨c,d,e,h,r⟩=>⟨c,d,e,hcv x q (hv (x,q) (by simp)) c h,xh hcv (by simpa using hl) (λp hp=>hv p (by simp[hp])) r⟩|[],_::_,_,h,_,_=>by simp at h|_::_,[],_,h,_,_=>by simp at h
theorem EZ {K:Kd α} {xs:List α} {F:Fz} (hh:(Res.own K v e xs).holds (F.add h) h) (hap:Apart F h):(kSl K).val (F.add h) v xs:=by rcases hh with⟨rfl,rfl,_⟩|⟨g,cap,cur,rfl,rfl,h3,h4,h5,h6⟩;exact⟨[.slice none 0 0],⟨none,0,rfl,F9 _,.inl rfl⟩,rfl⟩;refine⟨[.slice (some ⟨g,0,none⟩) xs.length cap],⟨_,cap,rfl,h3,.inr ⟨⟨g,0,none⟩,cur,e,(0,0),rfl,rfl,?_,?_,by simpa using h6⟩⟩,rfl⟩;have hg:F.blk g=none:=hap g (by rw[Ju];simp);simp only[Fz.add,hg];exact Ju _ _;have:xs.length*K.n≤cap*K.n:=FS _ h3;simp only;omega
theorem LT:∀{xs:List β} {qs:List Value} {F:Fz} {w:World},St F w (owns KT tg TT xs qs++L)→∃G,F≤G∧St G w L∧∀p∈List.zip xs qs,(kSl KT).val G p.2 (tg p.1)|[],qs,F,w,h=>⟨F,KF F,by simpa[owns] using h,λp hp=>by simp at hp⟩|_::_,[],F,w,h=>⟨F,KF F,by simpa[owns] using h,λp hp=>by simp at hp⟩|x::xs,q::qs,F,w,h=>by obtain⟨f,hh,hap,hle,hS⟩:=St.freeze (r:= .own KT q TT (tg x)) (L:=owns KT tg TT xs qs++L) h;obtain⟨G,h1,h2,h3⟩:=LT (xs:=xs) (qs:=qs) hS;refine⟨G,Ki hle h1,h2,λp hp=>?_⟩;rcases Gl.1 (by simpa using hp) with rfl|hp;exact(EZ hh hap).mono h1;exact h3 p hp
theorem Kx {KB:Kd β} (hR:Free KR) (hT:Free KT) (hn:KB.n=KR.n) (hcv:∀F x q,(kSl KT).val F q (tg x)→∀cs,KR.rd F cs (mk x q)→KB.rd F cs x) (k:Under F0 n E (.own KB v TE xs::L) X):Under F0 n E (nh KR KT mk tg TE TT v xs::L) X:=λF a w h0 hE hS=>by obtain⟨qs,hl,hS2⟩:=hS.manyOpen hR hT;have hS3:St F w (owns KT tg TT xs qs++(.own KR v TE (List.zipWith mk xs qs)::L)):=hS2.perm HV.symm;obtain⟨G,hg,hS4,hv⟩:=LT hS3;refine k G a w (Ki h0 hg) (hE.mono hg) (hS4.map λf hf=>?_);(have hlen:(List.zipWith mk xs qs).length=xs.length:=by simp[hl]);rcases hf with⟨h1,h2,h3⟩|⟨g,cap,cur,a1,a2,a3,a4,a5,a6⟩;refine .inl ⟨h1,?_,h3⟩;have:=congrArg List.length h2;rw[hlen] at this;exact Gb this;rw[hlen] at a1 a3 a6;exact .inr ⟨g,cap,cur,a1,a2,a3,a4,by rw[hn];exact a5,by rw[hn];exact xh (hcv G) hl hv a6⟩
theorem KS {i:Int} (hR:Free KR) (hT:Free KT) (hi:idx xs i=some x)
   (k:∀(q:Value) (ys:List γ) (Rs:List Res),ys.length=xs.length→idx ys i=some (mk x q)→
    (∀x',mk x' q=mk x q→∀F w L',St F w (.own KR v TE ys:: .own KT q TT (tg x')::(Rs++L'))→St F w (nh KR KT mk tg TE TT v (xs.set i.toNat x')::L'))→
    Under F0 n E (.own KR v TE ys:: .own KT q TT (tg x)::(Rs++L)) X):Under F0 n E (nh KR KT mk tg TE TT v xs::L) X:=λF a w h0 hE hS=>by
 obtain⟨qs,hl,hS2⟩:=hS.manyOpen hR hT
 obtain⟨h1,h2,h3⟩:=iU hi
 have hlt:i.toNat<xs.length:=(FN.1 h3).1
 have hltq:i.toNat<qs.length:=by omega
 have hx:xs[i.toNat]=x:=(FN.1 h3).2
 have spl:∀x',owns KT tg TT (xs.set i.toNat x') qs=owns KT tg TT (xs.take i.toNat) (qs.take i.toNat)++.own KT qs[i.toNat] TT (tg x')::owns KT tg TT (xs.drop (i.toNat+1)) (qs.drop (i.toNat+1)):=λx'=>by
   unfold owns
   rw[Hi,Gz hlt]
   conv=>lhs;rw[show qs=qs.take i.toNat++qs[i.toNat]::qs.drop (i.toNat+1) by simp]
   rw[List.zipWith_append (by simp;omega)]
   rfl
 have self:xs.set i.toNat x=xs:=by rw[←hx];simp
 have spl0:=spl x
 rw[self] at spl0
 rw[spl0] at hS2
 refine k qs[i.toNat] (List.zipWith mk xs qs) (owns KT tg TT (xs.take i.toNat) (qs.take i.toNat)++owns KT tg TT (xs.drop (i.toNat+1)) (qs.drop (i.toNat+1))) (by simp[hl]) ?_ (λx' he F w L' h=>?_) F a w h0 hE (hS2.perm ?_)
 · unfold idx
   rw[Gz h1,IY,h3]
   simp[hltq]
 · refine Km (qs:=qs) (by simp[hl]) ?_
   have hz:List.zipWith mk (xs.set i.toNat x') qs=List.zipWith mk xs qs:=by
    refine HM λj=>?_
    rw[IY,IY,List.getElem?_set]
    by_cases hj:i.toNat=j
    · subst hj
      rw[Gz rfl,Gz hlt,h3]
      simp only[GP hltq,he]
    · rw[Gt hj]
   rw[hz,spl x']
   refine h.perm (List.Perm.cons _ ?_)
   simp only[F6,G5]
   exact HV.symm
 · refine List.Perm.cons _ ?_
   simp only[F6,G5]
   exact HV
end
end Go.Sim
namespace Go.Sim
open Go
section
variable {P:Program} {ops:Array Oper} {Q:Exit→Act→World→Prop} {rest:List Oper} {F0:Fz} {n:Nat} {E:List (Nat×SV)} {L:List Res}
variable {d:Nat} {op:Op} {ty:TypeId} {pos:String} {aft:Array Edge} {s:SV}
theorem KY {β γ τ:Type} {KR:Kd γ} {KT:Kd τ} {mk:β→Value→γ} {tg:β→List τ} {TE TT e t:TypeId} {v:Value} {xs:List β} {X:Operand} (hR:Free KR) (hT:Free KT) (ht:P.underlying t=some (.slice e)) (hX:ev E X=some (.raw v)) (hd:Nat.blt d n=true) (k:Under F0 n ((d,.raw (.int .i64 xs.length))::E) (nh KR KT mk tg TE TT v xs::L) (wpList P ops Q rest)):Under F0 n E (nh KR KT mk tg TE TT v xs::L) (wpList P ops Q (⟨some d,.call ⟨.builtin .len,#[X],#[t]⟩,ty,pos,aft,none⟩::rest)):=λF a w h0 hE hS=>by obtain⟨qs,hl,hS2⟩:=hS.manyOpen hR hT;(have hlen:(List.zipWith mk xs qs).length=xs.length:=by simp[hl]);refine Mh (L:=owns KT tg TT xs qs++L) ht hX hd (λF a w h0 hE hS3=>?_) F a w h0 hE hS2;rw[hlen] at hE;exact k F a w h0 hE (Km hl hS3)
theorem Kc {β γ τ:Type} {KR:Kd γ} {KT:Kd τ} {mk:β→Value→γ} {tg:β→List τ} {TE TT:TypeId} {v:Value} {xs:List β} {X:Act→World→Prop} (hR:Free KR) (hT:Free KT) (k:v.oneCell'=true→Under F0 n E (nh KR KT mk tg TE TT v xs::L) X):Under F0 n E (nh KR KT mk tg TE TT v xs::L) X:=λF a w h0 hE hS=>by obtain⟨qs,hl,hS2⟩:=hS.manyOpen hR hT;obtain⟨f,hf,_⟩:=hS2;refine k ?_ F a w h0 hE hS;rcases hf with⟨rfl,_⟩|⟨g,cap,cur,rfl,_⟩<;>rfl
theorem Ma (k:Under F0 n E (bif b then L else r::L) X):Under F0 n E (r::L) X:=by cases b with|true=>exact Li k|false=>exact k
theorem KZ (h:∀F w,St F w L→St F w L') (k:Under F0 n E L' X):Under F0 n E L X:=λF a w h0 hE hS=>k F a w h0 hE (h F w hS)
end
end Go.Sim
namespace Go.Sim
open Go
structure Tk where
 deps:List Nat
 res:(Nat→Value)→Res
 ok:∀bs bs':Nat→Value,(∀k∈deps,bs k=bs' k)→res bs=res bs'
def tk0 (r:Res):Tk:=⟨[],λ_=>r,λ_ _ _=>rfl⟩
def tk1 (k:Nat) (r:Value→Res):Tk:=⟨[k],λbs=>r (bs k),λ_ _ h=>by rw[h k (by simp)]⟩
structure Sk where
 deps:List Nat
 sv:(Nat→Value)→SV
 ok:∀bs bs':Nat→Value,(∀k∈deps,bs k=bs' k)→sv bs=sv bs'
def sk0 (r:SV):Sk:=⟨[],λ_=>r,λ_ _ _=>rfl⟩
def sk1 (k:Nat) (r:Value→SV):Sk:=⟨[k],λbs=>r (bs k),λ_ _ h=>by rw[h k (by simp)]⟩
structure It2 where
 val:Sk
 used:List Nat
 outs:List (Nat×Tk)
 rds:List Nat:=[]
structure Tok where
 id:Nat
 prod:Option Nat
 tk:Tk
def tabF:List It2→Nat→List Tok|[],_=>[]|it::r,j=>it.outs.map (λx=>⟨x.1,some j,x.2⟩)++tabF r (j+1)
def tabT (ini:List (Nat×Res)) (its:List It2):List Tok:=ini.map (λx=>⟨x.1,none,tk0 x.2⟩)++tabF its 0
def jv:List Tok→Nat→Option Tok|[],_=>none|t::r,i=>cond (Nat.beq t.id i) (some t) (jv r i)
def preT (tab:List Tok):List Nat→(Nat→Value)→List Res|[],_=>[]|i::r,bs=>match jv tab i with|some t=>t.tk.res bs::preT tab r bs|none=>preT tab r bs
def ku (tab:List Tok):List Nat→(Nat→Value)→List (List Res)|[],_=>[[]]|[i],bs=>[match jv tab i with|some t=>[t.tk.res bs]|none=>[]]|i::r,bs=>(match jv tab i with|some t=>[t.tk.res bs]|none=>[])::ku tab r bs
def vQ:List It2→Nat→Nat→Option Nat|[],_,_=>none|it::r,j,i=>cond (memN i it.used) (some j) (vQ r (j+1) i)
def lG (its:List It2):List Nat:=its.flatMap (·.used)
def finT:List Tok→List Nat→(Nat→Value)→List Res|[],_,_=>[]|t::r,us,bs=>cond (memN t.id us) (finT r us bs) (t.tk.res bs::finT r us bs)
def upd (bs:Nat→Value) (k:Nat) (v:Value):Nat→Value:=λq=>cond (Nat.beq q k) v (bs q)
theorem Ea (bs:Nat→Value) (v:Value) (h:q≠k):upd bs k v q=bs q:=by unfold upd;cases hb:Nat.beq q k with|false=>rfl|true=>exact absurd (GK hb) h
def befB (l:List Oper) (g:List Nat) (k j:Nat):Bool:=Nat.blt k g.length&&memN (g.getD k 0) ((lD l []).getD (g.getD j 0) [])
def so (l:List Oper) (g:List Nat) (tab:List Tok) (its:List It2) (us:List Nat) (k:Nat):Bool→Option Nat→List Nat→Bool|_,prev,[]=>(match prev with|some c=>befB l g k c|none=>true)|first,prev,i::r=>match jv tab i with|some t=>(cond first (match t.prod with|some q=>befB l g q k|none=>true) (match t.prod,prev with|some q,some c=>Nat.beq q c|_,_=>false))&& !memN i us&&so l g tab its us k false (vQ its 0 i) r|none=>false
def itB (l:List Oper) (g:List Nat) (tab:List Tok) (it:It2) (j:Nat):Bool:=it.used.all (λi=>match jv tab i with|some t=>(match t.prod with|some q=>befB l g q j|none=>true)|none=>false)&&it.outs.all (λx=>x.2.deps.all λk=>Nat.beq k j||befB l g k j)&&it.val.deps.all (λk=>Nat.beq k j||befB l g k j)
def vR (l:List Oper) (g:List Nat) (tab:List Tok) (full:List It2):List It2→Nat→Bool|[],_=>true|it::r,j=>itB l g tab it j&&(match it.rds with|[]=>true|rs=>so l g tab full it.used j true none rs)&&vR l g tab full r (j+1)
def tokB (l:List Oper) (g:List Nat) (ini:List (Nat×Res)) (its:List It2):Bool:=pq ((tabT ini its).map (·.id))&&pq (lG its)&&vR l g (tabT ini its) its its 0
theorem qw:∀{its:List It2} {j k:Nat} {it:It2},vR l g tab full its j=true→its[k]? =some it→itB l g tab it (j+k)=true∧(it.rds=[]∨so l g tab full it.used (j+k) true none it.rds=true)|[],_,_,_,_,h=>by simp at h|it0::r,j,0,it,h,e=>(by simp at e;subst e;simp only[vR,FT] at h;refine⟨h.1.1,?_⟩;have h2:=h.1.2;cases hr:it0.rds with|nil=>exact .inl rfl|cons x xs=>rw[hr] at h2;exact .inr h2)|it0::r,j,k+1,it,h,e=>by simp only[vR,FT] at h;have:=qw (j:=j+1) (k:=k) h.2 (by simpa using e);rw[show j+(k+1)=j+1+k by omega];exact this
theorem vS:∀{its:List It2} {j:Nat},vQ its j i=none→∀(q:Nat) (it:It2),its[q]? =some it→i∉it.used|[],_,_,q,it,h=>by simp at h|it0::r,j,h,q,it,hq=>by rw[vQ] at h;cases hm:memN i it0.used with|true=>rw[hm] at h;cases h|false=>rw[hm,FI] at h;cases q with|zero=>simp at hq;subst hq;exact λhi=>by rw[cp.2 hi] at hm;cases hm|succ q=>exact vS h q it (by simpa using hq)
theorem vT:∀{its:List It2} {j:Nat},vQ its j i=some c→∃q it,c=j+q∧its[q]? =some it∧i∈it.used|[],_,h=>by cases h|it0::r,j,h=>by rw[vQ] at h;cases hm:memN i it0.used with|true=>rw[hm,FJ] at h;cases h;exact⟨0,it0,by omega,by simp,cp.1 hm⟩|false=>rw[hm,FI] at h;obtain⟨q,it,h1,h2,h3⟩:=vT h;exact⟨q+1,it,by omega,by simpa using h2,h3⟩
theorem qx {t:Tok}:∀{tab:List Tok},jv tab i=some t→t∈tab∧t.id=i|[],h=>by cases h|u::r,h=>by rw[jv] at h;cases hb:Nat.beq u.id i with|true=>rw[hb,FJ] at h;cases h;exact⟨by simp,GK hb⟩|false=>rw[hb,FI] at h;have:=qx h;exact⟨by simp[this.1],this.2⟩
theorem ry {tab:List Tok} (hn:(tab.map (·.id)).Nodup) {t:Tok} (h:t∈tab):jv tab t.id=some t:=by induction tab with|nil=>cases h|cons u r ih=>rw[jv];rcases Gl.1 h with rfl|h;rw[Nat.beq_refl];rfl;(have hne:u.id≠t.id:=λe=>by simp only[Ge,Hq,Gu] at hn;exact hn.1 ⟨t,h,e.symm⟩);(have:Nat.beq u.id t.id=false:=by cases hb:Nat.beq u.id t.id with|false=>rfl|true=>exact absurd (GK hb) hne);rw[this,FI];exact ih (Hq.1 (by simpa using hn)).2 h
theorem Fq {tab:List Tok} (hn:(tab.map (·.id)).Nodup) {t u:Tok} (ht:t∈tab) (hu:u∈tab) (e:t.id=u.id):t=u:=by have h1:=ry hn ht;have h2:=ry hn hu;rw[e,h2] at h1;exact(Option.some.inj h1).symm
theorem ni:∀{its:List It2} {j:Nat},t∈tabF its j↔∃k it x,its[k]? =some it∧x∈it.outs∧t=⟨x.1,some (j+k),x.2⟩|[],j=>by simp[tabF]|it::r,j=>by simp only[tabF,Gd,Gu,ni (its:=r) (j:=j+1)];constructor;rintro(⟨x,hx,rfl⟩|⟨k,it',x,h1,h2,rfl⟩);exact⟨0,it,x,by simp,hx,rfl⟩;exact⟨k+1,it',x,by simpa using h1,h2,by rw[show j+(k+1)=j+1+k by omega]⟩;rintro⟨k,it',x,h1,h2,rfl⟩;cases k with|zero=>simp at h1;subst h1;exact .inl ⟨x,h2,rfl⟩|succ k=>exact .inr ⟨k,it',x,by simpa using h1,h2,by rw[show j+(k+1)=j+1+k by omega]⟩
theorem Aw:∀{tab:List Tok},finT tab us bs=(tab.filter (λt=> !memN t.id us)).map (λt=>t.tk.res bs)|[]=>rfl|t::r=>by rw[finT,I8];cases memN t.id us<;>simp[Aw (tab:=r)]
theorem Ax:∀{us:List Nat},preT tab us bs=(us.filterMap (jv tab)).map (λt=>t.tk.res bs)|[]=>rfl|i::r=>by rw[preT,List.filterMap_cons];cases jv tab i<;>simp[Ax (us:=r)]
theorem oa {k i:Nat} {it:It2} (h:its[k]? =some it) (hi:i∈it.used):i∈lG its:=It.2 ⟨it,Gn h,hi⟩
theorem su:∀{its:List It2} {j k i:Nat} {it it':It2},(lG its).Nodup→its[j]? =some it→its[k]? =some it'→i∈it.used→i∈it'.used→j=k
 |[],_,_,_,_,_,_,h,_,_,_=>by simp at h
 |it0::r,j,k,i,it,it',hn,hj,hk,h1,h2=>by
  have hn':(it0.used++lG r).Nodup:=by simpa[lG] using hn
  obtain⟨n1,n2,n3⟩:=Hu.1 hn'
  cases j with
  |zero=>
   simp at hj;subst hj
   cases k with
   |zero=>rfl
   |succ k=>exact absurd rfl (n3 i h1 i (oa (by simpa using hk) h2))
  |succ j=>
   cases k with
   |zero=>simp at hk;subst hk;exact absurd rfl (n3 i h2 i (oa (by simpa using hj) h1))
   |succ k=>have e:=su (its:=r) (j:=j) (k:=k) n2 (by simpa using hj) (by simpa using hk) h1 h2;omega
theorem vU:∀{its:List It2} {k:Nat} {it:It2},(lG its).Nodup→its[k]? =some it→it.used.Nodup|[],_,_,_,h=>by simp at h|it0::r,k,it,hn,h=>by(have hn':(it0.used++lG r).Nodup:=by simpa[lG] using hn);cases k with|zero=>simp at h;subst h;exact(Hu.1 hn').1|succ k=>exact vU (Hu.1 hn').2.1 (by simpa using h)
def nj (G:Fz) (n:Nat) (L:List Res) (k:Nat) (bs:Nat→Value) (it:It2) (dst:Option Nat):Act→World→Prop:=λa w=>∃H v,G≤H∧(match dst with|some d=>∃u,a.tmps[d]? =some u∧(it.val.sv (upd bs k v)).ok H u|none=>True)∧St H w (it.outs.map (λx=>x.2.res (upd bs k v))++L)∧a.defers=[]
def envT:Option Nat→SV→List (Nat×SV)→List (Nat×SV)|some d,s,E=>(d,s)::E|none,_,E=>E
def seqT (P:Program) (n:Nat) (tab:List Tok) (Lf:List Res→List Res) (ops:Array Oper) (F0:Fz) (bs:Nat→Value) (K:List (Nat×SV)→Prop):Nat→List It2→List (List Nat)→List Oper→List (Nat×SV)→Prop|j,it::its,us::p,o::l,E=>(∀R,R∈ku tab it.rds bs→∀G T,F0≤G→Under G n (gg us E) (preT tab it.used bs++(R++Lf T)) (wpList P ops (Exit.then (nj G n (R++Lf T) j bs it o.dst) QF) [o]))∧seqT P n tab Lf ops F0 bs K (j+1) its p l (envT o.dst (it.val.sv bs) E)|_,[],[],[],E=>K E|_,_,_,_,_=>False
section
variable {P:Program} {ops:Array Oper} {Q:Exit→Act→World→Prop} {rest:List Oper} {F0:Fz} {n:Nat} {E:List (Nat×SV)} {L:List Res}
variable {d:Nat} {op:Op} {ty:TypeId} {pos:String} {aft:Array Edge} {s:SV} {Lf:List Res→List Res} {tab:List Tok}
theorem Ay:∀{its:List It2} {p:List (List Nat)} {l:List Oper} {E:List (Nat×SV)} {j:Nat},seqT P n tab Lf ops F0 bs K j its p l E→its.length=l.length∧K (kw l (its.map (λit=>it.val.sv bs)) E)∧∀(i:Nat) o us it,l[i]? =some o→p[i]? =some us→its[i]? =some it→∀R,R∈ku tab it.rds bs→∀G T,F0≤G→Under G n (gg us (kw (l.take i) ((its.take i).map (λit=>it.val.sv bs)) E)) (preT tab it.used bs++(R++Lf T)) (wpList P ops (Exit.then (nj G n (R++Lf T) (j+i) bs it o.dst) QF) [o])|[],[],[],E,j,h=>⟨rfl,by simpa[kw,seqT] using h,λi o us it hi=>by simp at hi⟩|it::its,us::p,o::l,E,j,h=>(by obtain⟨h1,h2⟩:=h;obtain⟨e1,e2,e3⟩:=Ay h2;refine⟨by simp[e1],?_,λi q us' it' hi hp hs=>?_⟩;rw[Ge,kw];(cases hd:o.dst with|none=>rw[hd] at e2;exact e2|some d=>rw[hd] at e2;exact e2);cases i with|zero=>simp at hi hp hs;subst hi;subst hp;subst hs;simpa[kw] using h1|succ i=>have:=e3 i q us' it' (by simpa using hi) (by simpa using hp) (by simpa using hs);rw[List.take_succ_cons,List.take_succ_cons,Ge,kw,show j+(i+1)=j+1+i by omega];cases hd:o.dst with|none=>rw[hd] at this;exact this|some d=>rw[hd] at this;exact this)|[],_::_,_,_,_,h=>by simp[seqT] at h|[],[],_::_,_,_,h=>by simp[seqT] at h|_::_,[],_,_,_,h=>by simp[seqT] at h|_::_,_::_,[],_,_,h=>by simp[seqT] at h
theorem Az {o:Oper} {a:Act} {it:It2} (hi:ops[i]? =some o)
   (h:wpList P ops (Exit.then (nj G n L k bs it o.dst) QF) [o] a w) (hlt:∀d,o.dst=some d→d<a.tmps.size) (hdef:a.defers=[]):
   wpOp P ops Q i (λa' w'=>∃v x H,a'=a.put o.dst v∧G≤H∧(∀d,o.dst=some d→(it.val.sv (upd bs k x)).ok H v)∧St H w' (it.outs.map (λy=>y.2.res (upd bs k x))++L)) a w:=by
 have fin:∀v w',nj G n L k bs it o.dst (a.put o.dst v) w'→∃v' x H,a.put o.dst v=a.put o.dst v'∧G≤H∧(∀d,o.dst=some d→(it.val.sv (upd bs k x)).ok H v')∧St H w' (it.outs.map (λy=>y.2.res (upd bs k x))++L):=λv w' ⟨H,x,h1,h2,h3,_⟩=>by
   refine⟨v,x,H,rfl,h1,λd hd=>?_,h3⟩
   rw[hd] at h2
   obtain⟨u,hu,ho⟩:=h2
   simp only[Act.put] at hu
   rw[Gj (hlt d hd)] at hu
   cases hu;exact ho
 unfold wpOp
 simp only[hi]
 unfold wpList at h
 split
 · rename_i hw
   rw[Gz hw] at h
   refine .inl ?_
   rcases h with h|⟨_,hlets⟩
   case inr=>exact absurd hlets (λhl=>by simp[LetsOut,QF,Exit.then] at hl)
   unfold Oper.wp at*
   generalize (execOp a.eval o).run P w=r at*
   cases r with
   |ok nx w'=>
    cases nx<;>simp only[Oper.upon] at h⊢
    case value u=>exact fin _ _ h
    case skip=>exact fin _ _ h
    case defer dd=>
     obtain⟨H,x,h1,h2,h3,h4⟩:=h
     exfalso
     cases hd:o.dst<;>simp[Act.put,hd] at h4
    case enter f args=>
     refine Calls.mono h λe w'' he=>?_
     cases e with
     |returned u=>exact fin _ _ he
     |panicked c=>exact he.elim
     |outgrown=>obtain⟨_,_,x⟩:=he;exact x.elim
    case row row args=>exact Rows.mono h λu w'' he=>fin _ _ he
   |halt x w'=>
    cases x<;>simp only[Oper.upon] at h⊢<;>exact h.elim
 · rename_i hw
   rw[Gt hw] at h
   exact fin _ _ h
def LstT (g:List Nat) (listed:Array Bool) (q:Nat):Prop:=∃i,g[q]? =some i∧listed.getD i false=true
def Fv (tab:List Tok) (its:List It2) (g:List Nat) (listed:Array Bool) (t:Tok):Prop:=t∈tab∧(∀q,t.prod=some q→LstT g listed q)∧∀q it,its[q]? =some it→t.id∈it.used→¬LstT g listed q
structure InvT (F:Fz) (n:Nat) (tab:List Tok) (Lf:List Res→List Res) (L0:List Res) (l:List Oper) (D g:List Nat) (its:List It2) (E:List (Nat×SV)) (listed:Array Bool) (a:Act) (w:World):Prop where
 size:listed.size=l.length
 closed:∀j o,l[j]? =some o→listed.getD j false=true→∀e∈afters o,listed.getD e false=true
 dl:∀j∈D,j<l.length→listed.getD j false=true
 ex:∀j,j<l.length→listed.getD j false=true→j∈D∨j∈g
 st:∃G,∃bs:Nat→Value,∃ks:List Tok,F≤G∧St G w (Lf (ks.map (λt=>t.tk.res bs)++L0))∧(ks.map (·.id)).Nodup∧(∀t,t∈ks↔Fv tab its g listed t)∧a.defers=[]∧a.tmps.size=n∧
  (∀(k i:Nat) (o:Oper) (d:Nat) (it:It2),g[k]? =some i→l[i]? =some o→o.dst=some d→its[k]? =some it→listed.getD i false=true→∃v,a.tmps[d]? =some v∧(it.val.sv bs).ok G v)∧
  (∀(t:Nat) (s:SV),look E t=some s→(∀(i:Nat) (o:Oper),i∈g→l[i]? =some o→listed.getD i false=true→o.dst≠some t)→∃v,a.tmps[t]? =some v∧s.ok G v)
theorem kv {ks:List Tok} (h:(ks.map (·.id)).Nodup):ks.Nodup:=(IQ.1 h).imp λhne e=>hne (by rw[e])
set_option maxHeartbeats 1600000 in
theorem Eb {l:List Oper} {D g:List Nat} {p:List (List Nat)} {its:List It2} {ini:List (Nat×Res)} {F:Fz} {L0:List Res} (hLf:∀r T,(r::Lf T).Perm (Lf (r::T))) (hB:GB l D g p) (hits:its.length=(pick l g).length) (hT:tokB l g ini its=true)
  (hn:∀o∈pick l g,∀d,o.dst=some d→d<n)
  (hop:∀(bs:Nat→Value) (k:Nat) o us it,(pick l g)[k]? =some o→p[k]? =some us→its[k]? =some it→∀R,R∈ku (tabT ini its) it.rds bs→∀G T,F≤G→Under G n (gg us (kw ((pick l g).take k) ((its.take k).map (λit=>it.val.sv bs)) E)) (preT (tabT ini its) it.used bs++(R++Lf T)) (wpList P l.toArray (Exit.then (nj G n (R++Lf T) k bs it o.dst) QF) [o]))
  (hfin:∀(bs:Nat→Value) G a w,F≤G→Env G a n (kw (pick l g) (its.map (λit=>it.val.sv bs)) E)→St G w (Lf (finT (tabT ini its) (lG its) bs++L0))→mO P Q l (g++D) a w):
  ∀(fuel:Nat) (listed:Array Bool) (a:Act) (w:World),cntF listed≤fuel→InvT F n (tabT ini its) Lf L0 l D g its E listed a w→wpAny P .any l.toArray Q fuel listed a w:=by
 have hlen:=Ap hB.lt
 simp only[tokB,FT] at hT
 obtain⟨⟨hT1,hT2⟩,hT3⟩:=hT
 replace hT1:=jI hT1
 replace hT2:=jI hT2
 have hitB:∀{k:Nat} {it:It2},its[k]? =some it→itB l g (tabT ini its) it k=true:=λ{k it} h=>by have:=(qw hT3 h).1;rwa [Gf] at this
 have hrdB:∀{k:Nat} {it:It2},its[k]? =some it→it.rds=[]∨so l g (tabT ini its) its it.used k true none it.rds=true:=λ{k it} h=>by have:=(qw hT3 h).2;rwa [Gf] at this
 have befS:∀{k j:Nat},befB l g k j=true→k<g.length∧g.getD k 0∈((lD l [])[g.getD j 0]?).getD []:=λ{k j} h=>by
  simp only[befB,FT,Hp] at h
  exact⟨h.1,by have:=cp.1 h.2;simpa[List.getD] using this⟩
 have lfp:∀{X Y:List Res},X.Perm Y→(Lf X).Perm (Lf Y):=λ{X Y} h=>by
  have:=Fp hLf h []
  simpa using this
 have atEnd:∀(fuel:Nat) (listed:Array Bool) (a:Act) (w:World),cntF listed≤fuel→InvT F n (tabT ini its) Lf L0 l D g its E listed a w→(∀i∈g,listed.getD i false=true)→wpAny P .any l.toArray Q fuel listed a w:=by
  intro fuel listed a w hc inv all
  obtain⟨G,bs,ks,hg,hS,hnd,hks,hd,hsz,hA,hB'⟩:=inv.st
  have allL:∀q,q<g.length→LstT g listed q:=λq hq=>⟨g[q],by simp[hq],all _ (F7 hq)⟩
  have hkp:ks.Perm ((tabT ini its).filter (λt=> !memN t.id (lG its))):=by
    refine(Im (kv hnd) ((kv hT1).filter _)).2 λt=>?_
    rw[hks,Hg]
    constructor
    · rintro⟨h1,h2,h3⟩
      refine⟨h1,?_⟩
      cases hm:memN t.id (lG its) with
      |false=>rfl
      | true =>
        obtain⟨it,hit,hi⟩:=It.1 (cp.1 hm)
        obtain⟨q,hq⟩:=GL.1 hit
        have hql:=(FN.1 hq).1
        exact absurd (allL q (by omega)) (h3 q it hq hi)
    · rintro⟨h1,h2⟩
      refine⟨h1,λq hq=>?_,λq it hq hi=>?_⟩
      · rcases Gd.1 h1 with h|h
        · obtain⟨x,_,rfl⟩:=Gu.1 h;cases hq
        · obtain⟨k,it,x,h4,h5,rfl⟩:=ni.1 h
          cases hq
          have:=(FN.1 h4).1
          exact allL _ (by omega)
      · rw[cp.2 (oa hq hi)] at h2;cases h2
  have hS2:St G w (Lf (finT (tabT ini its) (lG its) bs++L0)):=hS.perm (lfp (by rw[Aw];exact(hkp.map _).append_right _))
  refine hfin bs G a w hg ⟨hd,hsz,λt s e=>?_⟩ hS2 fuel listed hc ⟨inv.size,inv.closed,λj hj=>⟨λh=>?_,λh=>?_⟩⟩
  · by_cases hw:∃o∈pick l g,o.dst=some t
    · obtain⟨o,ho,hot⟩:=hw
      obtain⟨k,hk⟩:=GL.1 ho
      have hkl:k<(pick l g).length:=(FN.1 hk).1
      have hkg:g[k]? =some g[k]:=by
        have:k<g.length:=by omega
        simp[this]
      have hki:k<its.length:=by omega
      have hik:its[k]? =some its[k]:=by simp[hki]
      rw[vP hB.dsts hk hot (show(its.map (λit=>it.val.sv bs))[k]? =some (its[k].val.sv bs) by simp[hki])] at e
      cases e
      have hl:=lA hB.lt k _ hkg
      exact hA k _ o t _ hkg (by rw[←hl];exact hk) hot hik (all _ (Gn hkg))
    · rw[mP (λo ho e=>hw ⟨o,ho,e⟩)] at e
      refine hB' t s e λi o hi hl _ e'=>hw ⟨o,?_,e'⟩
      obtain⟨k,hk⟩:=GL.1 hi
      have:=lA hB.lt k i hk
      exact Gn (this.trans hl)
  · rcases inv.ex j hj h with h|h
    · exact IX _ h
    · exact I9 _ h
  · rcases Gd.1 h with h|h
    · exact all j h
    · exact inv.dl j h hj
 intro fuel
 induction fuel with
 |zero=>
  intro listed a w hc inv
  refine atEnd 0 listed a w hc inv λi hi=>?_
  cases hl:listed.getD i false with
  |true=>rfl
  | false =>
    exfalso
    have hlt:i<listed.size:=by have:=hB.lt i hi;have:=inv.size;omega
    have hun:listed.getD i true=false:=by simp[hlt] at hl⊢;exact hl
    have:=nd hun;omega
 |succ fuel ih=>
  intro listed a w hc inv
  by_cases hall:∀i∈g,listed.getD i false=true
  · exact atEnd _ listed a w hc inv hall
  · have hex:∃k:Nat,∃i,g[k]? =some i∧listed.getD i false=false:=by
      refine Classical.byContradiction λhno=>hall λi hi=>?_
      obtain⟨k,hk⟩:=GL.1 hi
      cases hl:listed.getD i false with
      |true=>rfl
      |false=>exact absurd ⟨k,i,hk,hl⟩ hno
    have hready:∃i,i∈Region.ready .any l.toArray listed:=by
      obtain⟨k,i,hk,hl⟩:=hex
      induction k using Nat.strongRecOn generalizing i with
      | _ k ihk =>
        by_cases hbef:∃q,q<k∧∃j,g[q]? =some j∧listed.getD j false=false
        · obtain⟨q,hq,j,hj,hlj⟩:=hbef
          exact ihk q hq j hj hlj
        · obtain⟨o,us,ho,_,_,_,haf,_⟩:=hB.op k i hk
          have hil:i<l.length:=hB.lt i (Gn hk)
          have hlt:i<listed.size:=by have:=inv.size;omega
          refine⟨i,Jj.2 ⟨by simp[hlt] at hl⊢;exact hl,o,by simpa using ho,pr λe he=>?_⟩⟩
          obtain⟨h1,h2|h2⟩:=haf e he
          · exact inv.dl e h2 h1
          · obtain⟨q,hq⟩:=GL.1 h2
            have hqk:q<k:=by have:=(FN.1 hq).1;simp at this;omega
            rw[Gc hqk] at hq
            cases hle:listed.getD e false with
            |true=>rfl
            |false=>exact absurd ⟨q,hqk,e,hq,hle⟩ hbef
    refine⟨λh0=>(by obtain⟨i,hi⟩:=hready;rw[h0] at hi;cases hi),λi hi=>?_⟩
    obtain⟨hun,o,ho,haft⟩:=Jj.1 hi
    have ho':l[i]? =some o:=by simpa using ho
    have hil:i<l.length:=(FN.1 ho').1
    have hlist:=qp haft
    have hlt:i<listed.size:=by have:=inv.size;omega
    have hunf:listed.getD i false=false:=by simp[hlt] at hun⊢;exact hun
    have hiD:i∉D:=λh=>by rw[inv.dl i h hil] at hunf;cases hunf
    have hig:i∈g:=by
      rcases hB.others i hil with h|h|h
      · exact absurd h hiD
      · exact h
      · exact absurd (λj hj=>iV (λj=>listed.getD j false=true) inv.closed ho' hlist j (h j hj)) hall
    obtain⟨k,hk⟩:=GL.1 hig
    obtain⟨o2,us,ho2,hpk,hus,hsel,haf,hwr⟩:=hB.op k i hk
    rw[ho'] at ho2;cases ho2
    have hkl:k<(pick l g).length:=(FN.1 hpk).1
    have hki:k<its.length:=by omega
    have hit:its[k]? =some its[k]:=by simp[hki]
    obtain⟨G,bs,ks,hg,hS,hnd,hks,hdf,hsz,hA,hB'⟩:=inv.st
    have hgk:g.getD k 0=i:=by simp[List.getD,hk]
    have uniq:∀q,g[q]? =some i→q=k:=λq hq=>by
      have e1:=(FN.1 hq).2
      have e2:=(FN.1 hk).2
      exact(List.getElem_inj hB.nodup).1 (e1.trans e2.symm)
    have hkun:¬LstT g listed k:=λ⟨j,h1,h2⟩=>by rw[hk] at h1;cases h1;rw[hunf] at h2;cases h2
    have bef_lst:∀{q:Nat},befB l g q k=true→LstT g listed q:=λ{q} h=>by
      obtain⟨h1,h2⟩:=befS h
      rw[hgk] at h2
      exact⟨g.getD q 0,by simp[List.getD,h1],iV (λj=>listed.getD j false=true) inv.closed ho' hlist _ h2⟩
    -- what hangs on a listed operation's tellings does not hang on this one
    have dep_lst:∀{q j:Nat},befB l g q j=true→LstT g listed j→LstT g listed q:=λ{q j} h ⟨j1,hj1,hl1⟩=>by
      obtain⟨h1,h2⟩:=befS h
      obtain⟨o3,_,ho3,_⟩:=hB.op j _ hj1
      have hgq:g.getD j 0=j1:=by simp[List.getD,hj1]
      rw[hgq] at h2
      exact⟨g.getD q 0,by simp[List.getD,h1],iV (λj=>listed.getD j false=true) inv.closed ho3 (inv.closed _ o3 ho3 hl1) _ h2⟩
    have dne:∀d q j o' d',o.dst=some d→g[q]? =some j→l[j]? =some o'→o'.dst=some d'→i≠j→d≠d':=λd q j o' d' hd hq hj hd' hji e=>by
      subst e
      have hpq:=lA hB.lt q j hq
      have:=si hB.dsts hpk (hpq.trans hj) hd hd'
      subst this
      rw[hk] at hq;cases hq;exact hji rfl
    have hEnv:∀t s,look (gg us (kw ((pick l g).take k) ((its.take k).map (λit=>it.val.sv bs)) E)) t=some s→∃v,a.tmps[t]? =some v∧s.ok G v:=by
      intro t s e
      rw[qo] at e
      split at e
      · rename_i htu
        have hwt:=hwr t htu
        by_cases hw:∃q∈(pick l g).take k,q.dst=some t
        · obtain⟨o',hq,hqt⟩:=hw
          obtain⟨q,hq'⟩:=GL.1 hq
          have hqk:q<k:=by have:=(FN.1 hq').1;simp at this;omega
          have hpq:(pick l g)[q]? =some o':=by rw[Gc hqk] at hq';exact hq'
          have hgq:g[q]? =some g[q]:=by
            have:q<g.length:=by omega
            simp[this]
          have hlq:=lA hB.lt q _ hgq
          have hlo:l[g[q]]? =some o':=by rw[←hlq];exact hpq
          have hqi:q<its.length:=by omega
          have hsq:((its.take k).map (λit=>it.val.sv bs))[q]? =some (its[q].val.sv bs):=by simp[hqi,hqk]
          have hndt:(((pick l g).take k).filterMap (·.dst)).Nodup:=hB.dsts.sublist ((List.take_sublist k _).filterMap _)
          rw[vP hndt hq' hqt hsq] at e
          cases e
          refine hA q _ o' t _ hgq hlo hqt (by simp[hqi]) ?_
          exact iV (λj=>listed.getD j false=true) inv.closed ho' hlist _ ((hwt q _ o' hgq hlo hqt).1 hqk)
        · rw[mP (λx hx e'=>hw ⟨x,hx,e'⟩)] at e
          refine hB' t s e λj o' hj hlj hlisted hqt=>?_
          obtain⟨q,hq⟩:=GL.1 hj
          have hpq:=lA hB.lt q j hq
          have hqk:¬q<k:=λh=>hw ⟨o',by
            have:((pick l g).take k)[q]? =some o':=by rw[Gc h,hpq];exact hlj
            exact Gn this,hqt⟩
          by_cases hqk2:q=k
          · subst hqk2
            rw[hk] at hq;cases hq
            rw[hunf] at hlisted;cases hlisted
          · have:=iV (λj=>listed.getD j false=true) inv.closed hlj (inv.closed j o' hlj hlisted) i ((hwt q j o' hq hlj hqt).2 (by omega))
            rw[hunf] at this;cases this
      · cases e
    -- the tokens that it takes
    have hib:=hitB hit
    simp only[itB,FT,GM] at hib
    obtain⟨⟨hib1,hib2⟩,hib3⟩:=hib
    have husedlive:∀x∈its[k].used,∃t,jv (tabT ini its) x=some t∧t∈ks∧t.id=x:=λx hx=>by
      have h1:=hib1 x hx
      cases hf:jv (tabT ini its) x with
      |none=>rw[hf] at h1;cases h1
      | some t =>
        rw[hf] at h1
        obtain⟨h2,h3⟩:=qx hf
        refine⟨t,rfl,(hks t).2 ⟨h2,λq hq=>?_,λq it hq hi hl=>?_⟩,h3⟩
        · simp only[hq] at h1;exact bef_lst h1
        · rw[h3] at hi
          have:=su hT2 hq hit hi hx
          subst this
          exact hkun hl
    have hsp:ks.Perm (its[k].used.filterMap (jv (tabT ini its))++ks.filter (λt=> !memN t.id its[k].used)):=by
      have hidu:(its[k].used.filterMap (jv (tabT ini its))).map (·.id)=its[k].used:=by
        have:∀us:List Nat,(∀x∈us,∃t,jv (tabT ini its) x=some t∧t∈ks∧t.id=x)→(us.filterMap (jv (tabT ini its))).map (·.id)=us:=by
          intro us
          induction us with
          |nil=>intro _;rfl
          | cons x us ih =>
            intro h
            obtain⟨t,h1,_,h3⟩:=h x (by simp)
            rw[List.filterMap_cons,h1]
            simp only[Ge,h3,ih λy hy=>h y (by simp[hy])]
        exact this _ husedlive
      have hndu:(its[k].used.filterMap (jv (tabT ini its))).Nodup:=kv (by rw[hidu];exact vU hT2 hit)
      refine(Im (kv hnd) (Hu.2 ⟨hndu,(kv hnd).filter _,λx hx y hy e=>?_⟩)).2 λt=>?_
      · subst e
        have h1:x.id∈its[k].used:=by rw[←hidu];exact List.mem_map_of_mem hx
        have:=(Hg.1 hy).2
        rw[cp.2 h1] at this;cases this
      · rw[Gd,Hg,Ic]
        constructor
        · intro h
          cases hm:memN t.id its[k].used with
          |false=>exact .inr ⟨h,by simp⟩
          |true=>exact .inl ⟨t.id,cp.1 hm,ry hT1 ((hks t).1 h).1⟩
        · rintro(⟨x,hx,hf⟩|⟨h,_⟩)
          · obtain⟨t',h1,h2,_⟩:=husedlive x hx
            rw[hf] at h1;cases h1;exact h2
          · exact h
    -- what it looks at
    have hread:∃rl:List Tok,rl.map (λt=>t.tk.res bs)∈ku (tabT ini its) its[k].rds bs∧∃rest,(ks.filter (λt=> !memN t.id its[k].used)).Perm (rl++rest):=by
      rcases hrdB hit with h0|h0
      · exact⟨[],by rw[h0];simp[ku],_,List.Perm.refl _⟩
      · have key:∀(rs:List Nat) (first:Bool) (prev:Option Nat),so l g (tabT ini its) its its[k].used k first prev rs=true→(first=true→rs≠[])→(first=false→∃c,prev=some c∧LstT g listed c)→
            ∃t∈ks,memN t.id its[k].used=false∧[t.tk.res bs]∈ku (tabT ini its) rs bs:=by
          intro rs
          induction rs with
          | nil =>
            intro first prev h h1 h2
            cases first with
            |true=>exact absurd rfl (h1 rfl)
            | false =>
              obtain⟨c,rfl,hc⟩:=h2 rfl
              exact absurd (dep_lst h hc) hkun
          | cons i r ih =>
            intro first prev h h1 h2
            rw[so] at h
            cases hf:jv (tabT ini its) i with
            |none=>rw[hf] at h;cases h
            | some t =>
              rw[hf] at h
              simp only[FT,G8] at h
              obtain⟨⟨ha,hb⟩,hc⟩:=h
              obtain⟨f1,f2⟩:=qx hf
              have hin:[t.tk.res bs]∈ku (tabT ini its) (i::r) bs:=by
                cases r with
                |nil=>simp[ku,hf]
                |cons x xs=>simp[ku,hf]
              have hprod:∀q,t.prod=some q→LstT g listed q:=λq hq=>by
                cases first with
                |true=>rw[hq] at ha;exact bef_lst ha
                |false=>
                 obtain⟨c,rfl,hcl⟩:=h2 rfl
                 rw[hq] at ha
                 rw[GK (show Nat.beq q c=true from ha)];exact hcl
              by_cases hlive:∀q it,its[q]? =some it→t.id∈it.used→¬LstT g listed q
              · exact⟨t,(hks t).2 ⟨f1,hprod,hlive⟩,by rw[f2];exact hb,hin⟩
              · obtain⟨q,hq⟩:=Classical.not_forall.1 hlive
                obtain⟨it,hq⟩:=Classical.not_forall.1 hq
                obtain⟨hq1,hq⟩:=Classical.not_imp.1 hq
                obtain⟨hq2,hq⟩:=Classical.not_imp.1 hq
                have hq:=Classical.not_not.1 hq
                cases hcons:vQ its 0 i with
                |none=>exact absurd hq2 (by rw[f2];exact vS hcons q it hq1)
                |some c=>
                 obtain⟨q',it',e1,e2,e3⟩:=vT hcons
                 rw[f2] at hq2
                 have e4:=su hT2 hq1 e2 hq2 e3
                 rw[hcons] at hc
                 obtain⟨t',h5,h6,h7⟩:=ih false (some c) hc (λe=>by cases e) (λ_=>⟨c,rfl,by rw[e1,Gf,←e4];exact hq⟩)
                 refine⟨t',h5,h6,?_⟩
                 cases r with
                 |nil=>simp only[ku,GA] at h7;cases h7
                 |cons x xs=>
                  show _∈(match jv (tabT ini its) i with|some t=>[t.tk.res bs]|none=>[])::ku (tabT ini its) (x::xs) bs
                  exact List.mem_cons_of_mem _ h7
        have hne:its[k].rds≠[]∨its[k].rds=[]:=by cases its[k].rds<;>simp
        rcases hne with hne|hne
        · obtain⟨t,h1,h2,h3⟩:=key _ true none h0 (λ_=>hne) (λe=>by cases e)
          have hm:t∈ks.filter (λt=> !memN t.id its[k].used):=Hg.2 ⟨h1,by rw[h2];rfl⟩
          obtain⟨A1,A2,e⟩:=List.append_of_mem hm
          exact⟨[t],h3,A1++A2,by rw[e];exact HV⟩
        · exact⟨[],by rw[hne];simp[ku],_,List.Perm.refl _⟩
    obtain⟨rl,hrl,restk,hrp⟩:=hread
    have hS1:St G w (preT (tabT ini its) its[k].used bs++(rl.map (λt=>t.tk.res bs)++Lf (restk.map (λt=>t.tk.res bs)++L0))):=by
      refine hS.perm ((lfp (((hsp.map (λt=>t.tk.res bs)).append_right L0))).trans ?_)
      rw[Gy,F6,Ax]
      refine(nZ hLf _ _).symm.trans (IT _ ?_)
      refine(lfp ((hrp.map (λt=>t.tk.res bs)).append_right L0)).trans ?_
      rw[Gy,F6]
      exact(nZ hLf _ _).symm
    have hrun:=hop bs k o us _ hpk hus hit _ hrl G _ hg G a w (KF G) ⟨hdf,hsz,hEnv⟩ hS1
    have hfr:=Az (Q:=Q) (i:=i) (by simpa using ho') hrun (λd hd=>by rw[hsz];exact hn o (Gn hpk) d hd) hdf
    refine wpOp_mono (λa' w' h=>?_) hfr
    obtain⟨u,v,H,rfl,hgh,hok,hS'⟩:=h
    have lst_set:∀q,LstT g (listed.setIfInBounds i true) q↔LstT g listed q∨q=k:=λq=>by
      constructor
      · rintro⟨j,h1,h2⟩
        by_cases hji:i=j
        · subst hji;exact .inr (uniq q h1)
        · rw[Ir false hji] at h2;exact .inl ⟨j,h1,h2⟩
      · rintro(⟨j,h1,h2⟩|rfl)
        · exact⟨j,h1,HH h2⟩
        · exact⟨i,hk,by simp[hlt]⟩
    have tk_same:∀t∈ks,t.tk.res (upd bs k v)=t.tk.res bs:=λt ht=>by
      obtain⟨h1,h2,_⟩:=(hks t).1 ht
      refine t.tk.ok _ _ λq hq=>Ea _ _ λe=>?_
      subst e
      rcases Gd.1 h1 with h|h
      · obtain⟨x,_,rfl⟩:=Gu.1 h;simp[tk0] at hq
      · obtain⟨j,it,x,h4,h5,rfl⟩:=ni.1 h
        have hj:=h2 (0+j) rfl
        rw[Gf] at hj
        have hib:=hitB h4
        simp only[itB,FT,GM,Hd] at hib
        rcases hib.1.2 x h5 q hq with hb|hb
        · have:=GK hb
          subst this;exact hkun hj
        · exact hkun (dep_lst hb hj)
    have sv_same:∀q it,its[q]? =some it→LstT g listed q→it.val.sv (upd bs k v)=it.val.sv bs:=λq it hq hl=>by
      refine it.val.ok _ _ λz hz=>Ea _ _ λe=>?_
      subst e
      have hib:=hitB hq
      simp only[itB,FT,GM,Hd] at hib
      rcases hib.2 z hz with hb|hb
      · have:=GK hb
        subst this;exact hkun hl
      · exact hkun (dep_lst hb hl)
    have outs_tab:∀x∈its[k].outs,(⟨x.1,some k,x.2⟩:Tok)∈tabT ini its:=λx hx=>IX _ (ni.2 ⟨k,_,x,hit,hx,by rw[Gf]⟩)
    have out_notks:∀x∈its[k].outs,∀t∈ks,t.id≠x.1:=λx hx t ht e=>by
      have h1:=(hks t).1 ht
      have:=Fq hT1 h1.1 (outs_tab x hx) e
      subst this
      exact hkun (h1.2.1 k rfl)
    have hne:its[k].outs.map (·.1)|>.Nodup:=by
      have hs:(its[k].outs.map (λx=>(⟨x.1,some k,x.2⟩:Tok))).Sublist (tabT ini its):=by
        refine List.Sublist.trans ?_ (Hs _ _)
        have:∀(its:List It2) (j q:Nat) (it:It2),its[q]? =some it→(it.outs.map (λx=>(⟨x.1,some (j+q),x.2⟩:Tok))).Sublist (tabF its j):=by
          intro its
          induction its with
          |nil=>intro j q it h;simp at h
          | cons it0 r ih =>
            intro j q it h
            cases q with
            |zero=>simp at h;subst h;exact HI _ _
            |succ q=>rw[show j+(q+1)=j+1+q by omega];exact(ih (j+1) q it (by simpa using h)).trans (Hs _ _)
        have:=this its 0 k _ hit
        rwa [Gf] at this
      have:=hT1.sublist (hs.map (·.id))
      simpa[List.map_map,Function.comp_def] using this
    have tm:∀(t:Nat) u',a.tmps[t]? =some u'→(∀d,o.dst=some d→d≠t)→(a.put o.dst u).tmps[t]? =some u':=by
      intro t u' hu hne
      cases hd:o.dst with
      |none=>exact hu
      |some d=>simp only[Act.put];rw[GG (hne d hd)];exact hu
    refine ih _ _ _ (by have:=nd hun;omega) ⟨by simp[inv.size],λj q hj hlj e he=>?_,λj hj hjl=>?_,λj hj hlj=>?_,H,upd bs k v,its[k].outs.map (λx=>⟨x.1,some k,x.2⟩)++ks.filter (λt=> !memN t.id its[k].used),Ki hg hgh,?_,?_,λt=>?_,?_,?_,λq j o' d' it hq hj hd' hiq hlj=>?_,λt s' hl hno=>?_⟩
    · by_cases hji:i=j
      · subst hji
        rw[ho'] at hj;cases hj
        exact HH (hlist e he)
      · rw[Ir false hji] at hlj
        exact HH (inv.closed j q hj hlj e he)
    · exact HH (inv.dl j hj hjl)
    · by_cases hji:i=j
      · subst hji;exact .inr hig
      · rw[Ir false hji] at hlj;exact inv.ex j hj hlj
    · have e1:(ks.filter (λt=> !memN t.id its[k].used)).map (λt=>t.tk.res (upd bs k v))=(ks.filter (λt=> !memN t.id its[k].used)).map (λt=>t.tk.res bs):=G2 λt ht=>tk_same t (Hg.1 ht).1
      rw[Gy,e1,List.map_map,F6]
      refine hS'.perm ?_
      refine(IT _ ?_).trans (nZ hLf _ _)
      refine(nZ hLf _ _).trans (lfp ?_)
      rw[←F6,←Gy]
      exact((hrp.map _).append_right L0).symm
    · rw[Gy,List.map_map]
      refine Hu.2 ⟨by simpa[Function.comp_def] using hne,?_,λx hx y hy e=>?_⟩
      · exact hnd.sublist (Jf.map _)
      · subst e
        simp only[Gu,Function.comp_def] at hx
        obtain⟨z,hz,rfl⟩:=hx
        obtain⟨t,ht,e⟩:=Gu.1 hy
        exact out_notks z hz t (Hg.1 ht).1 e
    · rw[Gd,Hg,Gu]
      constructor
      · rintro(⟨x,hx,rfl⟩|⟨h1,h2⟩)
        · refine⟨outs_tab x hx,λq hq=>?_,λq it hq hi hl=>?_⟩
          · cases hq;exact(lst_set k).2 (.inr rfl)
          · -- a token is taken only behind what gives it
            have hib:=hitB hq
            simp only[itB,FT,GM] at hib
            have h5:=hib.1.1 _ hi
            rw[ry hT1 (outs_tab x hx)] at h5
            simp only at h5
            rcases(lst_set q).1 hl with h|rfl
            · exact hkun (dep_lst h5 h)
            · obtain⟨h6,h7⟩:=befS h5
              rw[hgk] at h7
              have:=iV (λj=>listed.getD j false=true) inv.closed ho' hlist _ h7
              rw[hunf] at this;cases this
        · obtain⟨h3,h4,h5⟩:=(hks t).1 h1
          refine⟨h3,λq hq=>(lst_set q).2 (.inl (h4 q hq)),λq it hq hi hl=>?_⟩
          rcases(lst_set q).1 hl with h|rfl
          · exact h5 q it hq hi h
          · rw[hit] at hq;cases hq
            rw[cp.2 hi] at h2;cases h2
      · rintro⟨h1,h2,h3⟩
        by_cases hp:t.prod=some k
        · left
          rcases Gd.1 h1 with h|h
          · obtain⟨x,_,rfl⟩:=Gu.1 h;cases hp
          · obtain⟨j,it,x,h4,h5,rfl⟩:=ni.1 h
            simp only[Gf,Option.some.injEq] at hp
            subst hp
            rw[hit] at h4;cases h4
            exact⟨x,h5,by rw[Gf]⟩
        · refine .inr ⟨(hks t).2 ⟨h1,λq hq=>?_,λq it hq hi hl=>h3 q it hq hi ((lst_set q).2 (.inl hl))⟩,?_⟩
          · rcases(lst_set q).1 (h2 q hq) with h|rfl
            · exact h
            · exact absurd hq hp
          · cases hm:memN t.id its[k].used with
            |false=>rfl
            |true=>exact absurd ((lst_set k).2 (.inr rfl)) (h3 k _ hit (cp.1 hm))
    · cases o.dst<;>exact hdf
    · cases o.dst with
      |none=>exact hsz
      |some d=>simp[Act.put,hsz]
    · by_cases hji:i=j
      · subst hji
        rw[ho'] at hj;cases hj
        have:=uniq q hq
        subst this
        rw[hit] at hiq;cases hiq
        refine⟨u,?_,hok d' hd'⟩
        rw[hd']
        simp only[Act.put];rw[Gj (by rw[hsz];exact hn o (Gn hpk) d' hd')]
      · rw[Ir false hji] at hlj
        obtain⟨u',hu,ho3⟩:=hA q j o' d' it hq hj hd' hiq hlj
        rw[sv_same q it hiq ⟨j,hq,hlj⟩]
        exact⟨u',tm d' u' hu λd hd=>dne d q j o' d' hd hq hj hd' hji,Kj hgh ho3⟩
    · obtain⟨u',hu,ho3⟩:=hB' t s' hl (λj o' hj hlj hlisted=>hno j o' hj hlj (HH hlisted))
      refine⟨u',tm t u' hu λd hd e=>?_,Kj hgh ho3⟩
      subst e
      exact hno i o hig ho' (by simp[hlt]) hd
theorem JL {l:List Oper} (g:List Nat) (p:List (List Nat)) (its:List It2) (ini:List (Nat×Res)) (Lf:List Res→List Res) (hLf:∀r T,(r::Lf T).Perm (Lf (r::T))) (hL:Lf (ini.map (·.2)++L)=L0) (hB:tP l D g p=true) (hT:tokB l g ini its=true) (hn:(pick l g).all (λo=>match o.dst with|some d=>Nat.blt d n|none=>true)=true) (h:∀F,F0≤F→∀bs,seqT P n (tabT ini its) Lf l.toArray F bs (λE'=>Under F n E' (Lf (finT (tabT ini its) (lG its) bs++L)) (mO P Q l (g++D))) 0 its p (pick l g) E):Under F0 n E L0 (mO P Q l D):=λF a w h0 hE hS fuel listed hc inv=>by subst hL;have key:=λbs=>Ay (h F h0 bs);have hG:=yt hB;(have nolst:∀q,¬LstT g listed q:=λq ⟨i,h1,h2⟩=>by have hig:=Gn h1;exact absurd ((inv.ex i (hG.lt i hig)).1 h2) (hG.apart i hig));have hT':=hT;simp only[tokB,FT] at hT';have hids:=jI hT'.1.1;refine Eb hLf hG (key λ_=>undef).1 hT (λo ho d hd=>?_) (λbs k o us it h1 h2 h3 R hR G T hg=>by have:=(key bs).2.2 k o us it h1 h2 h3 R hR G T hg;rwa [Gf] at this) (λbs G a w hg hE' hS'=>(key bs).2.1 G a w hg hE' hS') fuel listed a w hc ⟨inv.size,inv.closed,λj hj hjl=>(inv.ex j hjl).2 hj,λj hj hl=> .inl ((inv.ex j hj).1 hl),F,λ_=>undef,ini.map (λx=>⟨x.1,none,tk0 x.2⟩),KF F,?_,?_,λt=>?_,hE.defers,hE.size,λk i o d it hk hi _ _ hl=>absurd ⟨i,hk,hl⟩ (nolst k),λt s hl _=>hE.at_ t s hl⟩;have:=GM.1 hn o ho;rw[hd] at this;simpa[Hp] using this;(have e:(ini.map (λx=>(⟨x.1,none,tk0 x.2⟩:Tok))).map (λt=>t.tk.res (λ_=>undef))=ini.map (·.2):=by rw[List.map_map];rfl);rw[e];exact hS;exact hids.sublist ((HI _ _).map _);constructor;intro ht;refine⟨I9 _ ht,λq hq=>?_,λq it _ _=>nolst q⟩;obtain⟨x,_,rfl⟩:=Gu.1 ht;cases hq;rintro⟨h1,h2,_⟩;rcases Gd.1 h1 with h|h;exact h;obtain⟨j,it,x,_,_,rfl⟩:=ni.1 h;exact absurd (h2 _ rfl) (nolst _)
theorem Tq.st {v:Sk} (s:SV) (X:List Res) (hX:preT tab u bs=X) (hs:v.sv bs=s) (h:∀G T,F0≤G→Under G n (gg us E) (X++Lf T) (wpList P ops (Exit.then (nj G n (Lf T) j bs ⟨v,u,os,[]⟩ (some d)) QF) [⟨some d,op,ty,pos,aft,g⟩])) (k:seqT P n tab Lf ops F0 bs K (j+1) its p l ((d,s)::E)):seqT P n tab Lf ops F0 bs K j (⟨v,u,os,[]⟩::its) (us::p) (⟨some d,op,ty,pos,aft,g⟩::l) E:=by subst hX;subst hs;exact⟨λR hR=>by simp only[ku,GA] at hR;subst hR;exact h,k⟩
def Ke:=@Tq.st
theorem Lh (X:List Res) (hX:preT tab u bs=X) (h:∀G T,F0≤G→Under G n (gg us E) (X++Lf T) (wpList P ops (Exit.then (nj G n (Lf T) j bs ⟨v,u,os,[]⟩ none) QF) [⟨none,op,ty,pos,aft,g⟩])) (k:seqT P n tab Lf ops F0 bs K (j+1) its p l E):seqT P n tab Lf ops F0 bs K j (⟨v,u,os,[]⟩::its) (us::p) (⟨none,op,ty,pos,aft,g⟩::l) E:=by subst hX;exact⟨λR hR=>by simp only[ku,GA] at hR;subst hR;exact h,k⟩
theorem Tq.v (h:∀G T,F0≤G→Under G n (gg us E) (Lf T) (wpList P ops (Exit.then (nj G n (Lf T) j bs ⟨sk0 s,[],[],[]⟩ (some d)) QF) [⟨some d,op,ty,pos,aft,g⟩])) (k:seqT P n tab Lf ops F0 bs K (j+1) its p l ((d,s)::E)):seqT P n tab Lf ops F0 bs K j (⟨sk0 s,[],[],[]⟩::its) (us::p) (⟨some d,op,ty,pos,aft,g⟩::l) E:=⟨λR hR=>by simp only[ku,GA] at hR;subst hR;exact h,k⟩
def JF:=@Tq.v
theorem Lc {v:Sk} (s:SV) (R:List Res) (hR:ku tab [i] bs=[R]) (hs:v.sv bs=s) (h:∀G T,F0≤G→Under G n (gg us E) (R++Lf T) (wpList P ops (Exit.then (nj G n (R++Lf T) j bs ⟨v,[],[],[i]⟩ (some d)) QF) [⟨some d,op,ty,pos,aft,g⟩])) (k:seqT P n tab Lf ops F0 bs K (j+1) its p l ((d,s)::E)):seqT P n tab Lf ops F0 bs K j (⟨v,[],[],[i]⟩::its) (us::p) (⟨some d,op,ty,pos,aft,g⟩::l) E:=by subst hs;exact⟨λR' hR'=>by simp only[hR,GA] at hR';subst hR';exact h,k⟩
theorem M6 {v:Sk} (s:SV) (R R2:List Res) (hR:ku tab [i,i2] bs=[R,R2]) (hs:v.sv bs=s) (h:∀G T,F0≤G→Under G n (gg us E) (R++Lf T) (wpList P ops (Exit.then (nj G n (R++Lf T) j bs ⟨v,[],[],[i,i2]⟩ (some d)) QF) [⟨some d,op,ty,pos,aft,g⟩])) (h2:∀G T,F0≤G→Under G n (gg us E) (R2++Lf T) (wpList P ops (Exit.then (nj G n (R2++Lf T) j bs ⟨v,[],[],[i,i2]⟩ (some d)) QF) [⟨some d,op,ty,pos,aft,g⟩])) (k:seqT P n tab Lf ops F0 bs K (j+1) its p l ((d,s)::E)):seqT P n tab Lf ops F0 bs K j (⟨v,[],[],[i,i2]⟩::its) (us::p) (⟨some d,op,ty,pos,aft,g⟩::l) E:=by subst hs;exact⟨λR' hR'=>by simp only[hR,Gl,List.not_mem_nil,or_false] at hR';rcases hR' with rfl|rfl;exact h;exact h2,k⟩
theorem Tq.nil (h:K E):seqT P n tab Lf ops F0 bs K j [] [] [] E:=h
def J8:=@Tq.nil
theorem Jq {it:It2} (v:Value) (hd:look E d=some (it.val.sv (upd bs k v))) (hL:L'=it.outs.map (λx=>x.2.res (upd bs k v))++L):Under F0 n E L' (wpList P ops (Exit.then (nj F0 n L k bs it (some d)) Q') []):=by subst hL;exact λF a w h0 hE hS=>⟨F,v,h0,hE.at_ d _ hd,hS,hE.defers⟩
theorem KX {it:It2} (v:Value) (hL:L'=it.outs.map (λx=>x.2.res (upd bs k v))++L):Under F0 n E L' (wpList P ops (Exit.then (nj F0 n L k bs it none) Q') []):=by subst hL;exact λF a w h0 hE hS=>⟨F,v,h0,trivial,hS,hE.defers⟩
end
end Go.Sim
namespace Go.Sim
open Go
section
variable {P:Program} {ops:Array Oper} {Q:Exit→Act→World→Prop} {rest:List Oper} {F F0:Fz} {n:Nat} {E:List (Nat×SV)} {L:List Res} {C:World→Prop} {Qa:Act→Prop}
variable {d:Nat} {op:Op} {ty:TypeId} {pos:String} {aft:Array Edge} {s:SV} {X:Act→World→Prop}
theorem mv (h:ev E x=some s) (hd:Nat.blt d n=true) (k:Under F0 n ((d,s)::E) L (wpList P ops Q rest)):Under F0 n E L (wpList P ops Q (⟨some d,.move x,ty,pos,aft,none⟩::rest)):=J4 (OpV.move h) hd k
theorem ag (h:ev E x=some s) (hd:Nat.blt d n=true) (k:Under F0 n ((d,s)::E) L (wpList P ops Q rest)):Under F0 n E L (wpList P ops Q (⟨some d,.assign x,ty,pos,aft,none⟩::rest)):=J4 (Mm h) hd k
theorem mvq (h:ev E x=some s) (hd:Nat.blt d n=true) (k:aK F n ((d,s)::E) (wpQuiet P ops (Cl F L) Qa rest)):aK F n E (wpQuiet P ops (Cl F L) Qa (⟨some d,.move x,ty,pos,aft,none⟩::rest)):=Mo (OpV.move h) hd k
theorem agq (h:ev E x=some s) (hd:Nat.blt d n=true) (k:aK F n ((d,s)::E) (wpQuiet P ops (Cl F L) Qa rest)):aK F n E (wpQuiet P ops (Cl F L) Qa (⟨some d,.assign x,ty,pos,aft,none⟩::rest)):=Mo (Mm h) hd k
theorem bn {b:BinOp} {k:IntKind} {x y:Int} {X Y:Operand} {t u:TypeId} {v:Value} (hX:ev E X=some (.raw (.int k x))) (hY:ev E Y=some (.raw (.int k y))) (hv:binI b k x y=some v) (hd:Nat.blt d n=true) (kk:Under F0 n ((d,.raw v)::E) L (wpList P ops Q rest)):Under F0 n E L (wpList P ops Q (⟨some d,.binOp b t X Y u,ty,pos,aft,none⟩::rest)):=J4 (LV hX hY hv) hd kk
theorem bnq {b:BinOp} {k:IntKind} {x y:Int} {X Y:Operand} {t u:TypeId} {v:Value} (hX:ev E X=some (.raw (.int k x))) (hY:ev E Y=some (.raw (.int k y))) (hv:binI b k x y=some v) (hd:Nat.blt d n=true) (kk:aK F n ((d,.raw v)::E) (wpQuiet P ops (Cl F L) Qa rest)):aK F n E (wpQuiet P ops (Cl F L) Qa (⟨some d,.binOp b t X Y u,ty,pos,aft,none⟩::rest)):=Mo (LV hX hY hv) hd kk
theorem sr {x:Code} {id:Nat} {l:List Oper} (k:Under F0 n E L (wpList P l.toArray (Exit.then (x.wp P Q) Q) l)):Under F0 n E L ((Code.seq (Code.region id l.toArray false) x).wp P Q):=Under.seq (Under.region k)
theorem nt (k:Under F0 n E L K):Under F0 n E L (wpList P ops (Exit.then K Q) []):=Under.nil (Lt k)
theorem ns {x:Code} {id:Nat} {l:List Oper} (k:Under F0 n E L (wpList P l.toArray (Exit.then (x.wp P Q) Q) l)):Under F0 n E L (wpList P ops (Exit.then ((Code.seq (Code.region id l.toArray false) x).wp P Q) Q) []):=nt (sr k)
theorem ct (k:Under F0 n E L K):Under F0 n E L (Code.skip.wp P (Exit.then K Q)):=KK (Lt k)
theorem rt (k:Under F0 n E L (Q .ret)):Under F0 n E L (Code.ret.wp P (Exit.then K Q)):=Lq (L4 k)
theorem pkT (hc:c=true) (h:ev E x=some (.raw (.bool c))) (h1:ev E y=some s):OpV P n E L ⟨some d,.pick x y z,ty,pos,aft,none⟩ s:=OpV.pick h (λ_=>h1) (λe=>absurd (e.symm.trans hc) (by decide))
theorem pkF (hc:c=false) (h:ev E x=some (.raw (.bool c))) (h1:ev E z=some s):OpV P n E L ⟨some d,.pick x y z,ty,pos,aft,none⟩ s:=OpV.pick h (λe=>absurd (e.symm.trans hc) (by decide)) (λ_=>h1)
theorem rbq (h:some a=some b):SV.raw (.bool a)=SV.raw (.bool b):=congrArg (λb=>SV.raw (.bool b)) (Option.some.inj h)
theorem osi (h:some a=some b):a=b:=Option.some.inj h
end
theorem s1 (h0:look E k0=some u0):∀t v,look [(k0,u0)] t=some v→look E t=some v:=aI h0 (kX E)
theorem s2 (h0:look E k0=some u0) (h1:look E k1=some u1):∀t v,look [(k0,u0),(k1,u1)] t=some v→look E t=some v:=aI h0 (aI h1 (kX E))
theorem s3 (h0:look E k0=some u0) (h1:look E k1=some u1) (h2:look E k2=some u2):∀t v,look [(k0,u0),(k1,u1),(k2,u2)] t=some v→look E t=some v:=aI h0 (aI h1 (aI h2 (kX E)))
theorem s5 (h0:look E k0=some u0) (h1:look E k1=some u1) (h2:look E k2=some u2) (h3:look E k3=some u3) (h4:look E k4=some u4):∀t v,look [(k0,u0),(k1,u1),(k2,u2),(k3,u3),(k4,u4)] t=some v→look E t=some v:=aI h0 (aI h1 (aI h2 (aI h3 (aI h4 (kX E)))))
theorem s6 (h0:look E k0=some u0) (h1:look E k1=some u1) (h2:look E k2=some u2) (h3:look E k3=some u3) (h4:look E k4=some u4) (h5:look E k5=some u5):∀t v,look [(k0,u0),(k1,u1),(k2,u2),(k3,u3),(k4,u4),(k5,u5)] t=some v→look E t=some v:=aI h0 (aI h1 (aI h2 (aI h3 (aI h4 (aI h5 (kX E))))))
theorem s7 (h0:look E k0=some u0) (h1:look E k1=some u1) (h2:look E k2=some u2) (h3:look E k3=some u3) (h4:look E k4=some u4) (h5:look E k5=some u5) (h6:look E k6=some u6):∀t v,look [(k0,u0),(k1,u1),(k2,u2),(k3,u3),(k4,u4),(k5,u5),(k6,u6)] t=some v→look E t=some v:=aI h0 (aI h1 (aI h2 (aI h3 (aI h4 (aI h5 (aI h6 (kX E)))))))
theorem s8 (h0:look E k0=some u0) (h1:look E k1=some u1) (h2:look E k2=some u2) (h3:look E k3=some u3) (h4:look E k4=some u4) (h5:look E k5=some u5) (h6:look E k6=some u6) (h7:look E k7=some u7):∀t v,look [(k0,u0),(k1,u1),(k2,u2),(k3,u3),(k4,u4),(k5,u5),(k6,u6),(k7,u7)] t=some v→look E t=some v:=aI h0 (aI h1 (aI h2 (aI h3 (aI h4 (aI h5 (aI h6 (aI h7 (kX E))))))))
theorem s16 (h0:look E k0=some u0) (h1:look E k1=some u1) (h2:look E k2=some u2) (h3:look E k3=some u3) (h4:look E k4=some u4) (h5:look E k5=some u5) (h6:look E k6=some u6) (h7:look E k7=some u7) (h8:look E k8=some u8) (h9:look E k9=some u9) (h10:look E k10=some u10) (h11:look E k11=some u11) (h12:look E k12=some u12) (h13:look E k13=some u13) (h14:look E k14=some u14) (h15:look E k15=some u15):∀t v,look [(k0,u0),(k1,u1),(k2,u2),(k3,u3),(k4,u4),(k5,u5),(k6,u6),(k7,u7),(k8,u8),(k9,u9),(k10,u10),(k11,u11),(k12,u12),(k13,u13),(k14,u14),(k15,u15)] t=some v→look E t=some v:=aI h0 (aI h1 (aI h2 (aI h3 (aI h4 (aI h5 (aI h6 (aI h7 (aI h8 (aI h9 (aI h10 (aI h11 (aI h12 (aI h13 (aI h14 (aI h15 (kX E))))))))))))))))
theorem s24 (h0:look E k0=some u0) (h1:look E k1=some u1) (h2:look E k2=some u2) (h3:look E k3=some u3) (h4:look E k4=some u4) (h5:look E k5=some u5) (h6:look E k6=some u6) (h7:look E k7=some u7) (h8:look E k8=some u8) (h9:look E k9=some u9) (h10:look E k10=some u10) (h11:look E k11=some u11) (h12:look E k12=some u12) (h13:look E k13=some u13) (h14:look E k14=some u14) (h15:look E k15=some u15) (h16:look E k16=some u16) (h17:look E k17=some u17) (h18:look E k18=some u18) (h19:look E k19=some u19) (h20:look E k20=some u20) (h21:look E k21=some u21) (h22:look E k22=some u22) (h23:look E k23=some u23):∀t v,look [(k0,u0),(k1,u1),(k2,u2),(k3,u3),(k4,u4),(k5,u5),(k6,u6),(k7,u7),(k8,u8),(k9,u9),(k10,u10),(k11,u11),(k12,u12),(k13,u13),(k14,u14),(k15,u15),(k16,u16),(k17,u17),(k18,u18),(k19,u19),(k20,u20),(k21,u21),(k22,u22),(k23,u23)] t=some v→look E t=some v:=aI h0 (aI h1 (aI h2 (aI h3 (aI h4 (aI h5 (aI h6 (aI h7 (aI h8 (aI h9 (aI h10 (aI h11 (aI h12 (aI h13 (aI h14 (aI h15 (aI h16 (aI h17 (aI h18 (aI h19 (aI h20 (aI h21 (aI h22 (aI h23 (kX E))))))))))))))))))))))))
abbrev sq:=@Under.seq
abbrev rg:=@Under.region
abbrev nl:=@Under.nil
abbrev tn:=@Lt
abbrev te:=@MN
abbrev tr:=@L4
abbrev rc:=@Lq
abbrev bk:=@Under.block
abbrev bh:=@MP
abbrev bN:=@MO
abbrev bm:=@MQ
abbrev xt:=@Under.exit
abbrev cs:=@KK
abbrev dr:=@Li
abbrev gc:=@MA
abbrev gq:=@M2
abbrev sk:=@MB
abbrev skq:=@M3
abbrev oq:=@Mo
abbrev ov:=@J4
abbrev rfq:=@MX
abbrev rf:=@Mj
abbrev byq:=@M1
abbrev by_:=@Mz
abbrev dw:=@Mf
abbrev nlq:=@aK.nil
end Go.Sim
namespace Go.Sim
open Go
def dn {α β:Type} [BEq α] (x:α) (ps:List (α×β)) (z:β):β:=(mfind x ps).getD z
def ZV {α:Type} (P:Program) (T:TypeId) (K:Kd α) (z:α):Prop:=∃v,(P.info? T).bind (·.zero)=some v∧∀F,K.val F v z
section
variable {P:Program} {ops:Array Oper} {Q:Exit→Act→World→Prop} {rest:List Oper} {F0:Fz} {n:Nat} {E:List (Nat×SV)} {L:List Res}
variable {d:Nat} {op:Op} {ty:TypeId} {pos:String} {aft:Array Edge} {s:SV}
theorem xi [BEq α] {K:Kd α} {V:Kd β} (hk:KeyK P kt K) (hT:P.underlying T=some (.map kt et)) (hz:ZV P et V z) {es:Array MapEntry} (hr:rdM K V F es.toList ps) (hx:K.val F key x):∃v,V.val F v (dn x ps z)∧∀w (m:Option Nat),(match m with|none=>es=#[]|some r=>∃c,w.heap[r]? =some (.map es c))→(Instr.lookup T (.map m) key false).run P w= .ok v w∧(Instr.lookup T (.map m) key true).run P w= .ok (.tuple #[v,.bool (mfind x ps).isSome]) w:=by obtain⟨zv,hz1,hz2⟩:=hz;rcases hfa:mpos x ps 0 with _|j;refine⟨zv,?_,λw m hm=>?_⟩;rcases eT hk hx (i:=0) hr (w:=default) with⟨a1,a2,a3⟩|⟨j,e,a1,_⟩;simp only[dn,a2,H8];exact hz2 F;rw[hfa] at a1;cases a1;rcases eT hk hx (i:=0) hr (w:=w) with⟨a1,a2,a3⟩|⟨j,e,a1,_⟩;have hf:=hk.find a3;have hc:=hk.chk (b:=es.isEmpty) hx (w:=w);have hzv:=kn hz1 w;(cases m with|none=>simp only at hm;subst hm;simp at hf hc;simp[Instr.lookup,FY hT,hc,hf,hzv,a2]|some r=>obtain⟨c,hb⟩:=hm;simp[Instr.lookup,FY hT,GH (P:=P) hb,hc,hf,hzv,a2]);rw[hfa] at a1;cases a1;rcases eT hk hx (i:=0) hr (w:=default) with⟨a1,_⟩|⟨j',e,a1,a2,a3,⟨y,a4,a5⟩,_⟩;rw[hfa] at a1;cases a1;refine⟨e.val,by simp only[dn,a4,GR];exact a5,λw m hm=>?_⟩;rcases eT hk hx (i:=0) hr (w:=w) with⟨b1,_⟩|⟨j2,e2,b1,b2,b3,_⟩;rw[hfa] at b1;cases b1;rw[a1] at b1;(have:j'=j2:=by simpa using b1);subst this;rw[a2] at b2;cases b2;have hf:=hk.find b3;have hc:=hk.chk (b:=es.isEmpty) hx (w:=w);cases m with|none=>simp only at hm;subst hm;simp at a2|some r=>obtain⟨c,hb⟩:=hm;simp[Instr.lookup,FY hT,GH (P:=P) hb,hc,hf,a4]
theorem Mr {α:Type} [BEq α] {K:Kd α} {q:IntKind} {T kt et:TypeId} {b:Nat} {ps:List (α×Int)} {M X:Operand} {x:α} {z:Int} {s1:SV} (hk:KeyK P kt K) (hT:P.underlying T=some (.map kt et)) (hz:ZV P et (kInt q) z) (hM:ev E M=some (.raw (.map (some b)))) (hX:ev E X=some s1) (h1:rdOf s1 K x):OpV P n E (.mp K (kInt q) b ps::L) ⟨some d,.lookup T M X false,ty,pos,aft,none⟩ (.raw (.int q (dn x ps z))):=KQ λF a hE w G hg hS=>by obtain⟨h,⟨es,clock,⟨hrd,hst⟩,rfl⟩,hon⟩:=hS.head;have hb:w.heap[b]? =some (.map es clock):=hon b _ (Ju _ _);obtain⟨v,hv,hr⟩:=xi hk hT hz hrd (h1 G _ ((hE.mono hg).eval hX));obtain rfl:=lN.1 hv;simp only[execOp,hE.raw hM,(hr w (some b) ⟨clock,hb⟩).1,FV,FQ,F3]
theorem Kz {T : TypeId} {X I : Operand} {x : List Int} {c : Int} {q : IntKind} {i : Int} {s1 : SV} (hx : idx x i = some c) (hT : P.underlying T = some .string) (hX : ev E X = some s1) (h1 : rdOf s1 kStr x) (hI : ev E I = some (.raw (.int q i))) : OpV P n E L ⟨some d, .index T X I, ty, pos, aft, none⟩ (.raw (.int .u8 c)) := JW λF a hE w => by obtain ⟨st, hv, rfl⟩ := nY (h1 F _ (hE.eval hX));obtain ⟨h0, h2, h3⟩ := iU hx;(have hl : i.toNat < st.size := by (have : i < (st.data.toList.length : Int) := by simpa using h2);(have e : st.size = st.data.toList.length := by rw [G1]; rfl);omega);have hi : 0 ≤ i ∧ i < st.size := ⟨h0, by omega⟩;(have hc : c = ((st[i.toNat]'hl).toNat : Int) := by (have h4 : (st.data.toList.map λb => (b.toNat : Int))[i.toNat]? = some ((st[i.toNat]'hl).toNat : Int) := by simp only [HL, GZ];(have : st.data[i.toNat]? = some (st[i.toNat]'hl) := by rw [GT (show i.toNat < st.data.size from hl)]; rfl);rw [this]; rfl);rw [h3] at h4; exact Option.some.inj h4);simp only [execOp, hv, hE.raw hI, FV, Go.run_index_string w T st q i hT, hi, and_self, dif_pos, FQ, F3];rw [hc]
theorem MZ {K:Kd α} {A:Option Operand} {xs:List α} {l h m:Int} (hs:sub xs l h=some ys) (hm:decide (h≤m∧m≤(xs.length:Int))=true) (hT:P.underlying T=some (.slice e)) (hz:(P.info? e).map (·.size)=some K.n) (hX:ev E X=some s) (hr:rdOf s (kSl K) xs) (hA:evO E A 0=some l) (hB:ev E B=some (.raw (.int k h))) (hC:ev E C=some (.raw (.int k' m))):OpV P n E L ⟨some d,.slice T X A (some B) (some C),ty,pos,aft,none⟩ (.val (kSl K) ys):=JX λF a hE=>by obtain⟨h0,h1,h2,rfl⟩:=ne hs;obtain⟨m1,m2⟩:=FO hm;obtain⟨cs,⟨ad,cap,rfl,hcap,r⟩,he⟩:=hr F _ (hE.eval hX);have he:a.eval X= .slice ad xs.length cap:=he;(have hbnd:∀w,(Instr.sliceBounds true xs.length cap (A.map a.eval) (some (.int k h)) (some (.int k' m))).run P w= .ok (l.toNat,h.toNat,m.toNat) w:=λw=>by(have e1:(m.toNat:Int)=m:=by omega);(have e2:(h.toNat:Int)=h:=by omega);rcases vN hE hA with⟨rfl,rfl⟩|⟨q,hq⟩;simp[Instr.sliceBounds,jf (show 0≤m by omega) (show m≤(cap:Int) by omega),jf (show 0≤h by omega) (show h≤((m.toNat:Nat):Int) by omega)];simp[Instr.sliceBounds,hq,jf (show 0≤m by omega) (show m≤(cap:Int) by omega),jf (show 0≤h by omega) (show h≤((m.toNat:Nat):Int) by omega),jf h0 (show l≤((h.toNat:Nat):Int) by omega)]);(have hl:((xs.take h.toNat).drop l.toNat).length=h.toNat - l.toNat:=by simp;omega);refine⟨.slice (if m.toNat=l.toNat then ad else ad.map (·.add (l.toNat*K.n))) (h.toNat - l.toNat) (m.toNat - l.toNat),?_,λw=>?_⟩;simp only[SV.ok];refine⟨[_],⟨_,m.toNat - l.toNat,by rw[hl],by rw[hl];omega,?_⟩,rfl⟩;rcases r with r|⟨p,c,e',fr,rfl,hp,hb,hle,hrd⟩;exact .inl (by rw[hl];omega);by_cases hc:m.toNat=l.toNat;exact .inl (by rw[hl];omega);refine .inr ⟨p.add (l.toNat*K.n),c,e',fr,by simp[hc],?_,?_,?_,?_⟩;obtain⟨b,o,sp⟩:=p;simp only at hp;subst hp;rw[Gp];obtain⟨b,o,sp⟩:=p;simp only at hp;subst hp;rw[Gp];exact hb;obtain⟨b,o,sp⟩:=p;simp only at hp;subst hp;rw[Gp,hl];(have:l.toNat*K.n+(h.toNat - l.toNat)*K.n≤xs.length*K.n:=by rw[←Hm];exact FS _ (by omega));simp only at hle⊢;omega;obtain⟨b,o,sp⟩:=p;simp only at hp;subst hp;rw[Gp,hl];have h3:=(hrd.take h.toNat).drop l.toNat;simp only at h3⊢;rw[HW,GE (FS _ (by omega)),HX,GI] at h3;rw[Nat.sub_mul];exact h3;simp only[execOp,Instr.sliceAt,he,Instr.slice,FY hT,HO,hE.raw hB,hE.raw hC,FV,FQ,hbnd w,cP hz,F3]
theorem Ms {K:Kd α} {xs:List α} {l h:Int} (hs:sub xs l h=some ys) (hT:P.underlying T=some (.array m e)) (hz:(P.info? e).map (·.size)=some K.n) (hX:ev E X=some (.ptr (kArr m K) xs)) (hA:evO E A 0=some l) (hB:evO E B m=some h):OpV P n E L ⟨some d,.slice T X A B none,ty,pos,aft,none⟩ (.val (kSl K) ys):=JX λF a hE=>by obtain⟨h0,h1,h2,rfl⟩:=ne hs;have:=hE.eval hX;simp only[SV.ok] at this;obtain⟨p,he,hp⟩:=this;obtain⟨c,e',fr,hsp,hb,hle,hm,hrd⟩:=hp.out;have hbnd:∀w,_:=λw=>qt (P:=P) hE (isS:=false) (len:=m) (cap:=m) hA hB h0 h1 (by omega) w;(have hl:((xs.take h.toNat).drop l.toNat).length=h.toNat - l.toNat:=by simp;omega);refine⟨.slice (some (if m=l.toNat then p else p.add (l.toNat*K.n))) (h.toNat - l.toNat) (m - l.toNat),?_,λw=>?_⟩;simp only[SV.ok];refine⟨[_],⟨_,m - l.toNat,by rw[hl],by rw[hl];omega,?_⟩,rfl⟩;by_cases hc:m=l.toNat;exact .inl (by rw[hl];omega);refine .inr ⟨p.add (l.toNat*K.n),c,e',fr,by simp[hc],?_,?_,?_,?_⟩;obtain⟨b,o,sp⟩:=p;simp only at hsp;subst hsp;rw[Gp];obtain⟨b,o,sp⟩:=p;simp only at hsp;subst hsp;rw[Gp];exact hb;obtain⟨b,o,sp⟩:=p;simp only at hsp;subst hsp;rw[Gp,hl];(have:l.toNat*K.n+(h.toNat - l.toNat)*K.n≤xs.length*K.n:=by rw[←Hm];exact FS _ (by omega));have h9:(kArr m K).n=m*K.n:=rfl;rw[hm] at this;simp only[h9] at hle⊢;omega;obtain⟨b,o,sp⟩:=p;simp only at hsp;subst hsp;rw[Gp,hl];have h9:(kArr m K).n=m*K.n:=rfl;have hrd':bi K F ((c.toList.drop o).take (m*K.n)) xs:=hrd;have h3:=(hrd'.take h.toNat).drop l.toNat;simp only at h3⊢;rw[HW,GE (FS _ (by omega)),HX,GI] at h3;rw[Nat.sub_mul];exact h3;simp only[execOp,Instr.sliceAt,FY hT,he,Instr.sureAddr,hbnd w,cP hz,FV,FQ,F3,Option.map_none]
end
end Go.Sim
namespace Go.Sim
open Go
theorem At.sub {K0:Kd β} {K:Kd α} {xs:List α} (p:At K0 x o (kArr m K) xs up) (h:l+k≤m):
  At K0 x (o+l*K.n) (kArr k K) ((xs.drop l).take k) (λys=>up (xs.take l++ys++xs.drop (l+k))) where
 get:=λ{F cs} hx=>by
  obtain⟨a,hl,b⟩:=p.get hx
  have h1:(l+k)*K.n≤m*K.n:=FS _ h
  rw[Hm] at h1
  have a':o+m*K.n≤cs.length:=a
  have hkn:(kArr k K).n=k*K.n:=rfl
  refine⟨by rw[hkn];omega,by simp;omega,?_⟩
  have h2:=(b.drop l).take k
  rw[show(kArr m K).n=m*K.n from rfl,eS (by omega)] at h2
  rw[hkn];exact h2
 set:=λ{F cs c ys} hx hy=>by
  obtain⟨a,hl,b⟩:=p.get hx
  obtain⟨hy1,hy2⟩:=hy
  have h1:(l+k)*K.n≤m*K.n:=FS _ h
  rw[Hm] at h1
  have hset:bi K F ((((cs.drop o).take (kArr m K).n).take (l*K.n))++c++(((cs.drop o).take (kArr m K).n).drop (l*K.n+k*K.n))) (xs.take l++ys++xs.drop (l+k)):=by
   have h3:=b.take l
   have h4:=b.drop (l+k)
   rw[Hm] at h4
   exact(h3.append hy2).append h4
  have:=p.set hx (c:=_) (z:=xs.take l++ys++xs.drop (l+k)) ⟨by simp;omega,hset⟩
  refine cast (congrArg (λl=>K0.rd F l _) ?_) this
  exact splice2 (u:=l*K.n) (q:=k*K.n) (m:=m*K.n) h1
def ival:Value→Int| .int _ x=>x|_=>0
def mpS {α β:Type} [BEq α] (K:Kd α) (V:Kd β) (b:Nat) (ps:List (α×β)) (x:α) (st:Int):Res:= .any λh=>∃es clock,(∀F,rdM K V F es.toList ps)∧Stamp es clock∧(∃(j:Nat) (e:MapEntry),es[j]? =some e∧(e.born:Int)=st∧mpos x ps 0=some j)∧h=Frag.one b (.map es clock)
theorem AA {α β:Type} {K:Kd α} {V:Kd β} (hK:Free K) (hV:Free V) {F G:Fz}:∀{es:List MapEntry} {ps:List (α×β)},rdM K V F es ps→rdM K V G es ps|[],[],h=>h|e::es,p::ps,⟨⟨c1,a1,b1⟩,⟨c2,a2,b2⟩,c⟩=>⟨⟨c1,hK _ _ _ _ a1,b1⟩,⟨c2,hV _ _ _ _ a2,b2⟩,AA hK hV c⟩|[],_::_,h=>h.elim|_::_,[],h=>h.elim
theorem BP:∀{es:List MapEntry} {ps:List (α×β)},rdM K V F es ps→es.length=ps.length|[],[],_=>rfl|_::es,_::ps,⟨_,_,c⟩=>by simp[BP c]|[],_::_,h=>h.elim|_::_,[],h=>h.elim
section
variable {α β:Type} [BEq α] [LawfulBEq α]
theorem vV:∀{ps:List (α×β)},mfind x (mset x u ps)=some u|[]=>by simp[mset,mfind]|p::ps=>by cases h:(x==p.1) with|true=>simp[mset,mfind,h]|false=>simp[mset,mfind,h,vV (ps:=ps)]
theorem vW {x:α} {u z:β} {ps:List (α×β)}:dn x (mset x u ps) z=u:=by simp[dn,vV]
theorem sw:∀{ps:List (α×β)} {i:Nat},mpos x (mset x u ps) i=match mpos x ps i with|some j=>some j|none=>some (i+ps.length)
 |[],i=>by simp[mset,mpos]
 |p::ps,i=>by
  cases h:(x==p.1) with
  |true=>simp[mset,mpos,h]
  |false=>
   simp only[mset,mpos,h,FI,sw (ps:=ps),F2]
   cases mpos x ps (i+1) with
   |some j=>rfl
   |none=>simp;omega
theorem BQ {V:Kd β} (h2:V.val F val v):∀{es:List MapEntry} {ps:List (α×β)} {i j:Nat},rdM K V F es ps→mpos x ps i=some (i+j)→rdM K V F (es.modify j λe=>{e with val:=val}) (mset x v ps)|e::es,p::ps,i,j,⟨a,b,c⟩,h=>(by cases hxy:(x==p.1) with|true=>simp only[mpos,hxy,FJ,Option.some.injEq] at h;(have:j=0:=by omega);subst this;have hx:x=p.1:=eq_of_beq hxy;simp only[mset,hxy,FJ,List.modify_zero_cons];exact⟨by rw[hx];exact a,h2,c⟩|false=>simp only[mpos,hxy,FI] at h;have:=tO h;cases j with|zero=>omega|succ j=>simp only[mset,hxy,FI,IU];exact⟨a,b,BQ h2 c (by rw[h];congr 1;omega)⟩)|[],[],_,_,_,h=>by simp[mpos] at h|[],_::_,_,_,h,_=>h.elim|_::_,[],_,_,h,_=>h.elim
end
section
variable {P:Program} {ops:Array Oper} {Q:Exit→Act→World→Prop} {rest:List Oper} {F0:Fz} {n:Nat} {E:List (Nat×SV)} {L:List Res}
variable {d:Nat} {op:Op} {ty:TypeId} {pos:String} {aft:Array Edge} {s:SV}
variable {α β:Type} [BEq α] [LawfulBEq α]
theorem MV (hg:decide (0<k∧lo+k≤hi∧hi≤m)=true) (hT:P.underlying T=some (.array k e)) (hX:ev E X=some (.raw (.slice (some (if m=lo then⟨b,off,none⟩ else⟨b,off+lo*sz,none⟩)) (hi - lo) (m - lo)))):OpV P n E L ⟨some d,.sliceToArrayPointer T X,ty,pos,aft,none⟩ (.raw (.pointer (some ⟨b,off+lo*sz,none⟩))):=JW λF a hE w=>by obtain⟨h0,h1,h2⟩:=FO hg;(have hne:m≠lo:=by omega);(have hlt:¬hi - lo<k:=by omega);simp[execOp,Instr.arrayAt,FY hT,hE.raw hX,hne,hlt]
theorem St.mapTurn {w:World} {r r':Res} (hs:St F w (r::L)) (hr:∀h,r.holds F h→∃e c,h=Frag.one b (.map e c)) (hb:w.heap[b]? =some (.map es clock)) (hr':r'.holds F (Frag.one b (.map es' clock'))):St F {w with heap:=w.heap.setIfInBounds b (.map es' clock')} (r'::L):=by refine hs.turn λh hh hon=>?_;obtain⟨es0,clock0,rfl⟩:=hr h hh;have hlt:=fg hb;refine⟨Frag.one b (.map es' clock'),hr',⟨rfl,rfl,rfl,λq _ hq=>?_⟩,λq hq=> .inl ?_,λq o ho=>?_⟩;(have hne:b≠q:=λe=>by subst e;rw[Ju] at hq;cases hq);exact GG hne;by_cases hqb:q=b;subst hqb;rw[Ju];simp;exact absurd (JZ _ hqb) hq;obtain⟨rfl,rfl⟩:=JT ho;exact Gj hlt
theorem MH {K:Kd α} {V:Kd β} {T kt et:TypeId} {b:Nat} {ps:List (α×β)} {M X:Operand} {x:α} {z:β} {s1:SV} (fK:Free K) (fV:Free V) (hk:KeyK P kt K) (hT:P.underlying T=some (.map kt et)) (hz:ZV P et V z)
  (hM:ev E M=some (.raw (.map (some b)))) (hX:ev E X=some s1) (h1:rdOf s1 K x) (hd:Nat.blt d n=true)
  (k:∀st:Int,Under F0 n ((d,.tup [.val V (dn x ps z),.raw (.int .i64 st)])::E) (mpS K V b (mset x (dn x ps z) ps) x st::L) (wpList P ops Q rest)):
  Under F0 n E (.mp K V b ps::L) (wpList P ops Q (⟨some d,.mapEntry T M X,ty,pos,aft,none⟩::rest)):=JE rfl λF a w h0 hE hS=>by
 obtain⟨h,⟨es,clock,⟨hrd,hst⟩,rfl⟩,hon⟩:=hS.head
 have hb:w.heap[b]? =some (.map es clock):=hon b _ (Ju _ _)
 have v1:=h1 F _ (hE.eval hX)
 have hc:=hk.chk (b:=false) (w:=w) v1
 obtain⟨zv,hz1,hz2⟩:=hz
 have key:∃es' clock' v st,(Instr.mapEntry T (.map (some b)) (a.eval X)).run P w= .ok (.tuple #[v,goInt (st:Nat)]) {w with heap:=w.heap.setIfInBounds b (.map es' clock')}∧V.val F v (dn x ps z)∧
    rdM K V F es'.toList (mset x (dn x ps z) ps)∧Stamp es' clock'∧∃(j:Nat) (e:MapEntry),es'[j]? =some e∧e.born=st∧mpos x (mset x (dn x ps z) ps) 0=some j:=by
  rcases eT hk v1 (w:=w) (i:=0) hrd with⟨a1,a2,a3⟩|⟨j,e,a1,a2,a3,⟨y,a4,a5⟩,q,a6,a7⟩
  · have hzv:=kn hz1 w
    have hg:dn x ps z=z:=by simp[dn,a2]
    rw[hg]
    refine⟨es.push {key:=a.eval X,val:=zv,born:=clock},clock+1,zv,clock,?_,hz2 F,?_,vx hst,es.size,{key:=a.eval X,val:=zv,born:=clock},by simp,rfl,?_⟩
    · simp only[Instr.mapEntry,FV,FY hT,FQ,GH (P:=P) hb,hc,hk.find a3,hzv,He (P:=P) _ hb,F3]
    · rw[sj a1,IN];exact vy v1 (hz2 F) hrd
    · rw[sw,a1];simp;have:=BP hrd;simp at this;omega
  · have hj:es[j]? =some e:=by simpa using a2
    have hsame:Instr.sameBits 10000 e.key (a.eval X)=true:=hk.same a6 v1 a7
    simp only[Gf] at a3 a1
    have hg:dn x ps z=y:=by simp[dn,a4]
    have a1':mpos x ps 0=some (0+j):=by rw[a1];simp
    have hrd2:rdM K V F (es.modify j λe=>{e with key:=a.eval X}).toList (mset x y ps):=by
      have h3:=yq (key:=a.eval X) (val:=e.val) (v:=y) v1 a5 hrd a1'
      rw[Iy]
      have:(es.toList.modify j λe'=>{e' with key:=a.eval X,val:=e.val})=es.toList.modify j λe=>{e with key:=a.eval X}:=by
       refine HM λi=>?_
       rw[List.getElem?_modify,List.getElem?_modify]
       by_cases hij:j=i
       · subst hij
         simp[hj]
       · simp[hij]
      rw[←this];exact h3
    have hjl:j<es.size:=(Ho.1 hj).1
    rw[hg]
    refine⟨es.modify j λe=>{e with key:=a.eval X},clock,e.val,e.born,?_,a5,hrd2,nW hst λ_=>rfl,j,{e with key:=a.eval X},?_,rfl,?_⟩
    · simp only[Instr.mapEntry,FV,FY hT,FQ,GH (P:=P) hb,hc,hk.find a3,Instr.keyThatStays,hj,HO,GR,hsame,IE,F3,He (P:=P) _ hb]
    · rw[HY];simp[hj]
    · rw[sw,a1]
 obtain⟨es',clock',v,st,hrun,hv,hrd',hst',j,e,hj,hje,hpos⟩:=key
 have hS':St F {w with heap:=w.heap.setIfInBounds b (.map es' clock')} (mpS K V b (mset x (dn x ps z) ps) x st::L):=
  hS.mapTurn (λh hh=>by obtain⟨es,clock,_,rfl⟩:=hh;exact⟨_,_,rfl⟩) hb ⟨es',clock',λG=>AA fK fV hrd',hst',⟨j,e,hj,by rw[hje],hpos⟩,rfl⟩
 unfold Oper.wp
 simp only[execOp,hE.raw hM,hrun,FV,FQ,F3,Oper.upon]
 exact k st F _ _ h0 (hE.put hd (by simp only[SV.ok];exact⟨[v,.int .i64 st],rfl,by simp only[SV.oks,SV.ok,IM];exact hv⟩)) hS'
theorem MI {K:Kd α} {V:Kd β} {T:TypeId} {b:Nat} {ps:List (α×β)} {M S Y:Operand} {x:α} {y:β} {st:Int} {q:IntKind} {s2:SV} (hM:ev E M=some (.raw (.map (some b)))) (hSt:ev E S=some (.raw (.int q st))) (hY:ev E Y=some s2) (h2:rdOf s2 V y) (k:Under F0 n E (.mp K V b (mset x y ps)::L) (wpList P ops Q rest)):Under F0 n E (mpS K V b ps x st::L) (wpList P ops Q (⟨none,.entryStore T M S Y,ty,pos,aft,none⟩::rest)):=JE rfl λF a w h0 hE hS=>by obtain⟨h,⟨es,clock,hrd,hst,⟨j,e,hj,hje,hpos⟩,rfl⟩,hon⟩:=hS.head;have hb:w.heap[b]? =some (.map es clock):=hon b _ (Ju _ _);have v2:=h2 F _ (hE.eval hY);have hjl:j<es.size:=(Ho.1 hj).1;(have hfi:es.findIdx? (λe=>(e.born:Int)==st)=some j:=by rw[Array.findIdx?_eq_some_iff_getElem];refine⟨hjl,?_,λi hi=>?_⟩;(have:es[j]=e:=by have:=(Ho.1 hj).2;exact this);rw[this,hje];simp;have he:es[j]=e:=(Ho.1 hj).2;(have hne:es[i].born≠es[j].born:=λh=>by have hnd:=hst.2;(have h1:(es.toList.map (·.born))[i]? =some es[i].born:=by rw[HL,GZ,GT (by omega)];rfl);(have h2:(es.toList.map (·.born))[j]? =some es[j].born:=by rw[HL,GZ,GT hjl];rfl);have:=(List.getElem?_inj (by simp;omega) hnd).1 (h1.trans (by rw[h];exact h2.symm));omega);simp only[Bool.not_eq_true,beq_eq_false_iff_ne];intro h;apply hne;rw[he];(have:(es[i].born:Int)=(e.born:Int):=by rw[h,hje]);exact_mod_cast this);(have hrun:(Instr.entryStore T (.map (some b)) (.int q st) (a.eval Y)).run P w= .ok () {w with heap:=w.heap.setIfInBounds b (.map (es.modify j λe=>{e with val:=a.eval Y}) clock)}:=by simp only[Instr.entryStore,FV,GH (P:=P) hb,FQ,asInt,asIntOf,F3,hfi,He (P:=P) _ hb]);have hS':St F {w with heap:=w.heap.setIfInBounds b (.map (es.modify j λe=>{e with val:=a.eval Y}) clock)} (.mp K V b (mset x y ps)::L):=hS.mapTurn (λh hh=>by obtain⟨es,clock,_,_,_,rfl⟩:=hh;exact⟨_,_,rfl⟩) hb ⟨es.modify j λe=>{e with val:=a.eval Y},clock,⟨by rw[Iy];exact BQ v2 (i:=0) (j:=j) (hrd F) (by rw[hpos];simp),nW hst λ_=>rfl⟩,rfl⟩;unfold Oper.wp;simp only[execOp,hE.raw hM,hE.raw hSt,hrun,FV,FQ,F3,Oper.upon];exact k F _ _ h0 hE hS'
end
section
variable {P:Program} {ops:Array Oper} {Q:Exit→Act→World→Prop} {rest:List Oper} {F0:Fz} {n:Nat} {E:List (Nat×SV)} {L:List Res}
variable {d:Nat} {op:Op} {ty:TypeId} {pos:String} {aft:Array Edge} {s:SV}
variable {α β:Type} [BEq α]
theorem M0 {K:Kd α} {q:IntKind} {T kt et:TypeId} {b:Nat} {ps:List (α×Int)} {M X:Operand} {x y:α} {z u:Int} {st:Int} {s1:SV} (hu:dn x ps z=u) (hk:KeyK P kt K) (hT:P.underlying T=some (.map kt et)) (hz:ZV P et (kInt q) z) (hM:ev E M=some (.raw (.map (some b)))) (hX:ev E X=some s1) (h1:rdOf s1 K x):OpV P n E (mpS K (kInt q) b ps y st::L) ⟨some d,.lookup T M X false,ty,pos,aft,none⟩ (.raw (.int q u)):=KQ λF a hE w G hg hS=>by obtain⟨h,⟨es,clock,hrd,hst,_,rfl⟩,hon⟩:=hS.head;have hb:w.heap[b]? =some (.map es clock):=hon b _ (Ju _ _);obtain⟨v,hv,hr⟩:=xi hk hT hz (hrd G) (h1 G _ ((hE.mono hg).eval hX));obtain rfl:=lN.1 hv;simp only[execOp,hE.raw hM,(hr w (some b) ⟨clock,hb⟩).1,FV,FQ,F3,hu]
end
end Go.Sim
namespace Go.Sim
open Go
theorem Lm [Fu] {S R:Type} {step:S→Option (Ctl S R)} (st:Nat→S) (res:Nat→R) (n:Nat) (hd:∀i,i<n→(step (st i)=some (.next (st (i+1)))∧res i=res (i+1))∨step (st i)=some (.done (res i))) (hn:step (st n)=some (.done (res n))):∀k i,n - i=k→i≤n→Loop.run step (st i)=some (res i)|0,i,hk,hi=>by(have:i=n:=by omega);subst this;exact Jv hn|k+1,i,hk,hi=>by rcases hd i (by omega) with⟨h1,h2⟩|h1;rw[JB h1,h2];exact Lm st res n hd hn k (i+1) (by omega) (by omega);exact Jv h1
theorem JV [Fu] {S R:Type} {step:S→Option (Ctl S R)} (st:Nat→S) (res:Nat→R) (n:Nat) (hd:∀i,i<n→(step (st i)=some (.next (st (i+1)))∧res i=res (i+1))∨step (st i)=some (.done (res i))) (hn:step (st n)=some (.done (res n))) {s0:S} (h0:s0=st 0):Loop.run step s0=some (res 0):=by subst h0;exact Lm st res n hd hn _ 0 rfl (by omega)
theorem cw {xs:List α} (h:i<xs.length):idx xs (i:Int)=some xs[i]:=by unfold idx;(have h1:(0:Int)≤(i:Int):=by omega);(have h2:(i:Int)<(xs.length:Int):=by omega);simp[h1,h2,h]
theorem wrap64 (h: -9223372036854775808≤x∧x≤9223372036854775807):IntKind.i64.wrap x=x:=IntWalk.i64_in _ (by omega)
theorem aQ {xs ys:List α} (h:xs.length+ys.length≤room):app xs ys=some (xs++ys):=by unfold app;simp[h]
def ltL:List Int→List Int→Bool|x::xs,y::ys=>if x=y then ltL xs ys else decide (x<y)|_,_=>false
theorem iW:∀x,ltL x x=false|[]=>rfl|a::x=>by simp[ltL,iW x]
theorem jV:∀{x y z:List Int},ltL x y=true→ltL y z=true→ltL x z=true|[],_,_,h,_=>by simp[ltL] at h|_::_,[],_,h,_=>by simp[ltL] at h|_::_,_::_,[],_,h=>by simp[ltL] at h|a::x,b::y,c::z,h1,h2=>by simp only[ltL] at h1 h2⊢;by_cases hab:a=b;subst hab;rw[Gz rfl] at h1;by_cases hac:a=c;subst hac;rw[Gz rfl] at h2⊢;exact jV h1 h2;rw[Gt hac] at h2⊢;exact h2;rw[Gt hab] at h1;by_cases hbc:b=c;subst hbc;rw[Gt hab];exact h1;rw[Gt hbc] at h2;have h1:=FO h1;have h2:=FO h2;rw[Gt (by omega)];exact FK (by omega)
theorem nk:∀{x y:List Int},x.length=y.length→x≠y→ltL x y=true∨ltL y x=true|[],[],_,h=>absurd rfl h|a::x,b::y,hl,h=>by simp only[ltL];by_cases hab:a=b;subst hab;simp only[IE];exact nk (by simpa using hl) (λe=>h (by rw[e]));rw[Gt hab,Gt (λe=>hab e.symm)];simp only[FX];omega|[],_::_,hl,_=>by simp at hl|_::_,[],hl,_=>by simp at hl
def aL (x:List Int):Prop:=∀b∈x,0≤b∧b≤255
theorem yw:∀{x y:List Int},aL x→aL y→x.length=y.length→(cmpB x y<0↔ltL x y=true)|[],[],_,_,_=>by simp[cmpB,Lib.bytesOf,Lib.compareBytes,ltL]|a::x,b::y,hx,hy,hl=>by have ih:=yw (x:=x) (y:=y) (λc hc=>hx c (by simp[hc])) (λc hc=>hy c (by simp[hc])) (by simpa using hl);have ha:=hx a (by simp);have hb:=hy b (by simp);(have key:∀p q:Int,0≤p→p≤255→0≤q→q≤255→(UInt8.ofNat p.toNat<UInt8.ofNat q.toNat↔p<q):=by intro p q h1 h2 h3 h4;rw[UInt8.lt_iff_toNat_lt,II,II,Iv (by omega),Iv (by omega)];omega);have k1:=key a b ha.1 ha.2 hb.1 hb.2;have k2:=key b a hb.1 hb.2 ha.1 ha.2;simp only[cmpB,Lib.bytesOf,Ge,Lib.compareBytes,ltL] at ih⊢;by_cases h1:a<b;rw[Gz (k1.2 h1),Gt (by omega)];simp[h1];rw[Gt (λh=>h1 (k1.1 h))];by_cases h2:b<a;rw[Gz (k2.2 h2),Gt (by omega)];simp;omega;rw[Gt (λh=>h2 (k2.1 h)),Gz (by omega)];exact ih|[],_::_,_,_,hl=>by simp at hl|_::_,[],_,_,hl=>by simp at hl
def addk {α:Type} [BEq α] (ks:List α) (x:α):List α:=if ks.elem x then ks else ks++[x]
section
variable {α β:Type} [BEq α] [LawfulBEq α]
theorem vX {ks:List α} {x y:α}:y∈addk ks x↔y∈ks∨y=x:=by unfold addk;split;rename_i h;(have hx:x∈ks:=by simpa using h);exact⟨.inl,λh=>h.elim id λe=>e▸hx⟩;simp
theorem Bg {ks:List α} (h:ks.Nodup):(addk ks x).Nodup:=by unfold addk;split;exact h;rename_i hx;(have hx:x∉ks:=by simpa using hx);rw[Hu];exact⟨h,by simp,λa ha b hb=>by simp at hb;subst hb;exact λe=>hx (e▸ha)⟩
theorem sx {l ks:List α} {y:α}:y∈l.foldl addk ks↔y∈ks∨y∈l:=by induction l generalizing ks with|nil=>simp|cons x l ih=>rw[GF,ih,vX,Gl];exact or_assoc
theorem pt {l ks:List α} (h:ks.Nodup):(l.foldl addk ks).Nodup:=by induction l generalizing ks with|nil=>exact h|cons x l ih=>exact ih (Bg h)
end
theorem xj [BEq α] {l ks:List α}:(l.foldl addk ks).length≤ks.length+l.length:=by induction l generalizing ks with|nil=>simp|cons x l ih=>have:=ih (ks:=addk ks x);(have h2:(addk ks x).length≤ks.length+1:=by unfold addk;split<;>simp);simp only[GF,F2];omega
section
variable {α β:Type} [BEq α] [LawfulBEq α]
theorem vY {l ks:List α} (h:(l.foldl addk ks).length=ks.length+l.length):l.Nodup∧∀x∈l,x∉ks:=by
 induction l generalizing ks with
 |nil=>simp
 |cons x l ih=>
  simp only[GF,F2] at h
  have h1:=xj (l:=l) (ks:=addk ks x)
  by_cases hx:x∈ks
  · have:(addk ks x).length=ks.length:=by simp[addk,hx]
    omega
  · have h2:addk ks x=ks++[x]:=by simp[addk,hx]
    have h3:(addk ks x).length=ks.length+1:=by rw[h2];simp
    obtain⟨h4,h5⟩:=ih (ks:=addk ks x) (by omega)
    refine⟨Hq.2 ⟨λhm=>h5 x hm (vX.2 (.inr rfl)),h4⟩,λy hy=>?_⟩
    rcases Gl.1 hy with rfl|hy
    · exact hx
    · exact λhk=>h5 y hy (vX.2 (.inl hk))
theorem sy:∀{ps:List (α×β)},(mset x v ps).map (·.1)=addk (ps.map (·.1)) x|[]=>by simp[mset,addk]|p::ps=>by have ih:=sy (x:=x) (v:=v) (ps:=ps);by_cases h:x=p.1;subst h;simp[mset,addk];(have hne:(x==p.1)=false:=by simpa using h);simp only[mset,hne,FI,Ge,ih,addk];by_cases hm:x∈ps.map (·.1);(have h2:(p.1::ps.map (·.1)).elem x=true:=by simpa using Or.inr (by simpa using hm));(have h3:(ps.map (·.1)).elem x=true:=by simpa using hm);rw[Gz h3,Gz h2];(have h2:¬(p.1::ps.map (·.1)).elem x=true:=by rw[List.elem_iff];intro h4;rcases Gl.1 h4 with h5|h5;exact h h5;exact hm h5);(have h3:¬(ps.map (·.1)).elem x=true:=by rw[List.elem_iff];exact hm);rw[Gt h3,Gt h2];rfl
end
end Go.Sim
