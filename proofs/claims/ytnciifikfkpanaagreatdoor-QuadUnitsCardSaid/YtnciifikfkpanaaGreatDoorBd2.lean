/- The base of the proof: contracts of functions, the engine that shows them, and mathematics. -/
import Derived.Laws.MakeOwn
import Derived.Deep.AppendSrc
import Derived.Test.YtnciifikfkpanaaGreatDoorBd1
set_option maxRecDepth 100000
set_option linter.unusedVariables false
set_option linter.unusedSimpArgs false
set_option maxHeartbeats 1000000
namespace Go.Proofs.YtnciifikfkpanaaGreatDoor.AM
open Go.RowKit
section
variable {P:Program} {Tb:World->Prop} {F B0:Nat->Prop} {w0 w:World} {β:Bm} {H:Hp} {ρ:Operand->Value} {o:Oper} {m:Sl}
theorem ua {s:TypeId} {f:Nat} {fd:Field} (h:aZw P s f=some fd):∃fs,P.underlying s=some (.struct fs)/\fs[f]? = some fd:=by
 unfold aZw at h;split at h
 ·rename_i fs hu;exact⟨fs,hu,h⟩
 ·cases h
theorem aZK {s:TypeId} {f g off:Nat} {fd:Field} {inf:TypeInfo} (h:aZw P s f=some fd) (hi:P.info? fd.type=some inf) (h0:Nat.beq inf.size 0=false):(Instr.fieldAt s (.pointer (some ⟨g,off,none⟩)) f).run P w = .ok (.pointer (some ⟨g,off+fd.offset,none⟩)) w:=by
 obtain⟨fs,hu,hf⟩:=ua h;have vT:inf.size≠0:=λe=>by rw[e] at h0;cases h0
 simp[Instr.fieldAt,run_underlying hu w,hf,Instr.sureAddr,fieldPlace,sizeOf,typeInfo,hi,vT,Addr.add_lit]
theorem p9 {s:TypeId} {f:Nat} {x:Operand} {a v:AV} {bm g:Option Prop} (ho:o.op = .fieldAddr s x f) (hx:aq (Ok F w0 β H) w β a (ρ x)) (h:a0O P s f a=some (bm,g,v)):Qu P F w0 w β H ρ o bm g v:=by
 unfold a0O at h;obtain⟨c,hc,hv⟩:=hx;split at h
 ·rename_i id r sz i off;split at h
  ·rename_i fd hf;split at h
   ·rename_i inf hi
    cases h0:Nat.beq inf.size 0 with
    | true=>rw[h0] at h;cases h
    | false=>
     rw[h0,q9] at h;obtain⟨rfl,rfl,rfl⟩:=bY h;obtain⟨g',C,n,bN,rfl⟩:=hc;refine Qu.val trivial λ_=>⟨λw=>?_,[_],⟨g',C,n,bN,rfl⟩,rfl⟩
     unfold execOp;simp only[ho,hv,pack,AV.row,q9,CZ,aZK hf hi h0,Sem.run_bind,Result.andThen_ok,Sem.run_pure,yf]
   ·cases h
  ·cases h
 ·rename_i K x';split at h
  ·rename_i fd hf;split at h
   ·rename_i inf hi
    cases h0:Nat.beq inf.size 0 with
    | true=>rw[h0] at h;cases h
    | false=>
     rw[h0,q9] at h;split at h
     ·rename_i fs hk;split at h
      ·rename_i K' y hs;obtain⟨rfl,rfl,rfl⟩:=bY h;obtain⟨g',off,c',rfl,h2,h3,h4,h5⟩:=hc;obtain⟨pre,mid,post,rfl,h6,h7,h8⟩:=vQ hs (oz (β:= β) hk h4).1;refine Qu.val trivial λ_=>⟨λw=>?_,[_],⟨g',off+pre.length,mid,rfl,h2,h3,h7,h5.mid⟩,rfl⟩
       have e:pre.length=fd.offset:=by omega
       unfold execOp;simp only[ho,hv,pack,AV.row,q9,CZ,aZK hf hi h0,Sem.run_bind,Result.andThen_ok,Sem.run_pure,e]
      ·cases h
     ·cases h
   ·cases h
  ·cases h
 ·cases h
theorem za {s:TypeId} {f:Nat} {x:Operand} {a v:AV} {bm g:Option Prop} (ho:o.op = .field s x f) (hx:aq (Ok F w0 β H) w β a (ρ x)) (h:a4h P s f a=some (bm,g,v)):Qu P F w0 w β H ρ o bm g v:=by
 unfold a4h at h;obtain⟨c,hc,hv⟩:=hx;split at h
 ·rename_i fd hf;obtain⟨fds,hu,hfd⟩:=ua hf;split at h
  ·rename_i fs hfs;obtain⟨hr,gK⟩:=qx hfs hc;split at h
   ·rename_i b hs
    cases hl:(jd P fd.type b.row b.wid&&(b.row||Nat.beq b.wid 1)) with
    | false=>rw[hl] at h;cases h
    | true=>
     rw[hl,fh] at h;rw[aI] at hl;obtain⟨hl,bn⟩:=hl;obtain⟨rfl,rfl,rfl⟩:=bY h;obtain⟨pre,mid,post,rfl,h6,h7,h8⟩:=vQ hs hr;refine Qu.val trivial λ_=>⟨λw=>?_,mid,h7,rfl⟩
     have e:pre.length=fd.offset:=by omega
     have hm:=h7.len;have abz:(part fd.type (pre++(mid++post)).toArray fd.offset).run P w = .ok (pack v.row mid) w:=by
      unfold jd at hl;split at hl
      ·rename_i d i sI hi;rw[aI,yp,pj] at hl;obtain⟨hd,br⟩:=hl;unfold part
       cases Oq:v.row with
       | true=>
        have DD:(isAgg fd.type).run P w = .ok true w:=by
         unfold isAgg;rw[Sem.run_bind,run_underlying sI w];rw[Oq] at hd
         cases d<;>simp_all [TypeDesc.isRow]
        simp[DD,sizeOf,typeInfo,hi,br,pack,<-e,<-hm]
       | false=>
        have DD:(isAgg fd.type).run P w = .ok false w:=by
         unfold isAgg;rw[Sem.run_bind,run_underlying sI w];rw[Oq] at hd
         cases d<;>simp_all [TypeDesc.isRow]
        have h1:mid.length=1:=by rw[Oq] at bn;simp at bn;omega
        obtain⟨u,rfl⟩:∃u,mid=[u]:=by
         match mid,h1 with
         | [u],_=>exact⟨u,rfl⟩
        simp[DD,pack,<-e]
      ·cases hl
     unfold execOp;simp only[ho,hv,gK,pack,fh,Instr.field,run_underlying hu w,asAgg,Sem.run_bind,Result.andThen_ok,Sem.run_pure,hfd,abz]
   ·cases h
  ·cases h
 ·cases h
theorem Ig {t:TypeId} {g off n c sz:Nat} {kd:IntKind} {i:Int} (ht:aYO P t=some sz) (h1:0<=i/\i<(n:Int)) :
  (Instr.indexAt t (.slice (some ⟨g,off,none⟩) n c) (.int kd i)).run P w = .ok (.pointer (some ⟨g,off+i.toNat*sz,none⟩)) w:=by
 unfold aYO at ht
 split at ht
 ·rename_i e hu
  obtain⟨inf,Tn,rfl⟩:=ja.1 ht
  simp only[Instr.indexAt,asIntOf,Sem.run_bind,Sem.run_pure,Result.andThen_ok,run_underlying hu w]
  simp[h1,sizeOf,typeInfo,Tn,Addr.add_lit]
 ·cases ht
theorem zb {ok:Nat->Prop} {K:Kd} {xs:List K.T} {i:Int} {c:List Value} (hc:bj ok w (.list K) xs c) (h:0<=i/\i<((xs.length:Nat):Int)):∃g off cp,c=[.slice (some ⟨g,off,none⟩) xs.length cp] /\
  Rel ok w β (.pk K (xs.getD i.toNat K.iC)) false [.pointer (some ⟨g,off+i.toNat*K.sz,none⟩)]:=by
 obtain⟨A,cp,rfl,h1,h2,h3⟩:=hc
 have aU:i.toNat<xs.length:=by omega
 obtain⟨g,off,css,rfl,h4,h5,h6,h7,h8⟩:=h3 (λe=>by rw[e] at aU;simp at aU)
 have lz:css[i.toNat]? = some css[i.toNat]:=bF (by omega)
 exact⟨g,off,cp,rfl,g,_,css[i.toNat],rfl,.inl h4,h5,h8 _ _ _ (fG aU _) lz,sU h6 (rA h7 h8) lz⟩
theorem aS0 {ok:Nat->Prop} {n:Nat} {i:Int} {c:List Value} (hc:bj ok w .rn n c) (h:0<=i/\i<((nl n:Nat):Int)):∃g off cp,c=[.slice (some ⟨g,off,none⟩) (nl n) cp] /\
  Rel ok w β (.pk (.int .u32) (((af ae n).getD i.toNat 0:Nat):Int)) false [.pointer (some ⟨g,off+i.toNat*1,none⟩)]:=by
 obtain⟨v,rfl,A,cp,rfl,_,h3⟩:=hc
 have hl:i.toNat<(af ae n).length:=by have:=h.2;unfold nl at this;omega
 obtain⟨g,off,rfl,hg,aK⟩:=h3 (λe=>by rw[e] at hl;simp at hl)
 have h1:=aK _ hl
 rw[uB]
 refine⟨g,off,cp,rfl,g,_,[.int .u32 ((af ae n).getD i.toNat 0:Nat)],rfl,.inr ⟨off+i.toNat,_,h1,rfl⟩,hg,rfl,λj hj=>?_⟩
 have qi:j=0:=by simpa using hj
 subst qi
 exact h1
theorem vU {b:Option (Nat×Nat×Nat)} {e:TypeId} {K:Kd} {xs:List K.T} {ok:Nat->Prop} (h:aS ok w b e K xs) (ay:0<xs.length):∃g C,b=some (g,C,xs.length):=by
 cases b with
 | none=>have h:xs=[]:=h;rw[h] at ay;simp at ay
 | some gc=>obtain⟨css,sp,h1,h2,h3,h4,h5,h6⟩:=h;exact⟨gc.1,gc.2.1,by rw[<-h5]⟩
theorem vc {n:Nat} {i:Int} (h:0<=i/\i<((n:Nat):Int)):0<n:=by omega
theorem qa (M:Mem Tb F B0 w0 β H w) {t:TypeId} {x y:Operand} {a b v:AV} {bm g:Option Prop} (ho:o.op = .indexAddr t x y) (hx:aq (Ok F w0 β H) w β a (ρ x)) (hy:aq (Ok F w0 β H) w β b (ρ y)) (h:a0P P H t a b=some (bm,g,v)):Qu P F w0 w β H ρ o bm g v:=by
 unfold a0P at h;split at h
 ·rename_i kd i;have e2:=hy.int;obtain⟨c,hc,hv⟩:=hx;have fin:∀{s g' off n cp:Nat},aYO P t=some s->0<=i/\i<(n:Int)->ρ x = .slice (some ⟨g',off,none⟩) n cp->∀w,(execOp ρ o).run P w = .ok (.value (.pointer (some ⟨g',off+i.toNat*s,none⟩))) w:=by
   intro s g' off n cp hs hi hxv w;unfold execOp;simp only[ho,hxv,e2,Ig hs hi,Sem.run_bind,Result.andThen_ok,Sem.run_pure]
  split at h
  ·rename_i s K xs hs
   cases hb:Nat.beq s K.sz with
   | false=>rw[hb] at h;cases h
   | true=>rw[hb,fh] at h;obtain⟨rfl,rfl,rfl⟩:=aqN h;rw[pj] at hb;subst hb;refine⟨trivial,λhg=>?_⟩;obtain⟨g',off,cp,rfl,hr⟩:=zb hc hg;exact⟨_,fin hs hg hv,_,hr,rfl⟩
  ·rename_i s K xs hs
   cases hb:Nat.beq s K.sz with
   | false=>rw[hb] at h;cases h
   | true=>rw[hb,fh] at h;obtain⟨rfl,rfl,rfl⟩:=aqN h;rw[pj] at hb;subst hb;refine⟨trivial,λhg=>?_⟩;obtain⟨g',off,cp,rfl,hr⟩:=zb hc.2 hg;exact⟨_,fin hs hg hv,_,hr,rfl⟩
  ·rename_i s n hs
   cases hb:Nat.beq s 1 with
   | false=>rw[hb] at h;cases h
   | true=>rw[hb,fh] at h;obtain⟨rfl,rfl,rfl⟩:=aqN h;rw[pj] at hb;subst hb;refine⟨trivial,λhg=>?_⟩;obtain⟨g',off,cp,rfl,hr⟩:=aS0 hc hg;exact⟨_,fin hs hg hv,_,hr,rfl⟩
  ·rename_i s id sz hs;split at h
   ·rename_i e K xs hH
    cases hb:Nat.beq s sz with
    | false=>rw[hb] at h;cases h
    | true=>rw[hb,fh] at h;obtain⟨rfl,rfl,rfl⟩:=aqN h;rw[pj] at hb;subst hb;refine⟨trivial,λhg=>?_⟩;have fc:0<=i/\i<((xs.length:Nat):Int):=hg;obtain⟨g',C,bN⟩:=vU (M.dD id _ hH) (vc fc);have hc:c=[slV (β id 0)]:=hc;rw[bN] at hc;subst hc;refine⟨_,fin hs fc hv,[_],⟨g',C,_,bN,rfl⟩,?_⟩;simp[pack,AV.row]
   ·rename_i oo e K out ai hH
    cases hb:Nat.beq s 1 with
    | false=>rw[hb] at h;cases h
    | true=>
     rw[hb,fh] at h;obtain⟨rfl,rfl,rfl⟩:=aqN h;rw[pj] at hb;subst hb;refine⟨trivial,λhg=>?_⟩;have fc:0<=i/\i<((out.length:Nat):Int):=hg;obtain⟨⟨_,hn⟩ | ⟨g',C,cs,sp,h1,h2,h3,h4,h5,h6⟩,_⟩:=M.dD id _ hH
     ·exact absurd (vc fc) (by rw[hn];simp)
     have hc:c=[slV (β id 0)]:=hc;rw[h1] at hc;subst hc;refine⟨_,fin hs fc hv,[_],⟨g',C,_,h1,rfl⟩,?_⟩;simp[pack,AV.row]
   ·cases h
  ·rename_i s id p sz hs;split at h
   ·rename_i oo e K out ai hH
    cases hb:Nat.beq s sz with
    | false=>rw[hb] at h;cases h
    | true=>rw[hb,fh] at h;obtain⟨rfl,rfl,rfl⟩:=aqN h;rw[pj] at hb;subst hb;refine⟨trivial,λhg=>?_⟩;obtain⟨hp,fc⟩:p<ai.length/\0<=i/\i<(((ai.getD p []).length:Nat):Int):=hg;obtain⟨g',C,bN⟩:=vU ((M.dD id _ hH).2.1 p _ (fG hp [])) (vc fc);have hc:c=[slV (β id (p+1))]:=hc;rw[bN] at hc;subst hc;refine⟨_,fin hs fc hv,[_],⟨g',C,_,bN,rfl⟩,?_⟩;simp[pack,AV.row]
   ·cases h
  ·rename_i s id sz off len hs
   cases hb:(Nat.beq s 1&&Nat.beq sz 1) with
   | false=>rw[hb] at h;cases h
   | true=>
    rw[hb,fh] at h;obtain⟨rfl,rfl,rfl⟩:=aqN h;simp only[aI,pj] at hb;obtain⟨rfl,rfl⟩:=hb;refine⟨trivial,λhg=>?_⟩;have hg:0<=i/\i<((len:Nat):Int):=hg;rcases hc with ⟨h0,_⟩ | ⟨g',C,n',bN,_,hc⟩
    ·exact absurd (vc hg) (by rw[h0];exact yz 0)
    ·subst hc;refine⟨_,fin hs hg hv,[_],⟨g',C,n',bN,rfl⟩,?_⟩;simp[pack,AV.row,nP]
  ·cases h
 ·cases h
end
def aPR:List Value->Nat->List Value->List Value
 | cs,_,[]=>cs
 | cs,o,v::r=>aPR (cs.set o v) (o+1) r
theorem j8:∀(vs cs:List Value) (o:Nat),(aPR cs o vs).length=cs.length
 | [],_,_=>rfl
 | v::r,cs,o=>by rw[aPR,j8 r];simp
theorem kD:∀(vs pre mid suf:List Value),mid.length=vs.length->aPR (pre++(mid++suf)) pre.length vs=pre++(vs++suf)
 | [],pre,mid,suf,h=>by rw[iP h];rfl
 | v::vs,pre,[],suf,h=>by simp at h
 | v::vs,pre,m::mid,suf,h=>by have ih:=kD vs (pre++[v]) mid suf (by simpa using h);rw[aPR,Ce,Cj _ _ (bX _),Ay,Ge];rw[c6,yn] at ih;rw[show pre++v::(mid++suf)=(pre++[v])++(mid++suf) from by simp,ih];simp
theorem ub:∀(l:List Value) (k off:Nat) (cells:Array Value),((l.zipIdx k).foldl (λcs (x:Value×Nat)=>cs.setIfInBounds (off+x.2) x.1) cells).toList=aPR cells.toList (off+k) l
 | [],_,_,_=>rfl
 | v::l,k,off,cells=>by rw[List.zipIdx_cons,List.foldl_cons,ub l (k+1) off,Array.toList_setIfInBounds,aPR,yf]
theorem sV {place:Nat->Option (Nat×Nat)} {i off sz:Nat} {v:Value} {rest:List (Nat×Value)} {pre mid suf:List Value} {cells:Array Value} (hp:place i=some (off,sz)) (hs:v.cells.size=sz) (hc:cells.toList=pre++(mid++suf)) (hl:pre.length=off) (hm:mid.length=sz) :
  Instr.fill place cells ((i,v)::rest)=Instr.fill place (pre++(v.cells.toList++suf)).toArray rest:=by
 have br:cells.size=pre.length+(mid.length+suf.length):=by rw[<-tL,hc];simp
 have e:v.cells.zipIdx.foldl (λcs (x:Value×Nat)=>cs.setIfInBounds (off+x.2) x.1) cells=(pre++(v.cells.toList++suf)).toArray:=by apply tP;rw[<-Array.foldl_toList,Array.toList_zipIdx,ub v.cells.toList 0 off cells,qX,hc,<-hl];exact kD _ _ _ _ (by rw[hm,tL,hs])
 rw[Instr.fill,hp]
 simp only
 rw[dw (by rw[hs,br,hl,hm];simp),e]
section
variable {P:Program} {Tb:World->Prop} {F B0:Nat->Prop} {w0 w:World} {β:Bm} {H:Hp} {ρ:Operand->Value} {o:Oper} {m:Sl} {ok:Nat->Prop}
theorem bj.one:∀{K:Kd} {x:K.T} {cs:List Value},bj ok w K x cs->∀u∈cs,u.oneCell'=true
 | .int _,_,_,h=>by cases h;intro u hu;simp only[kI] at hu;subst hu;rfl
 | .bool,_,_,h=>by cases h;intro u hu;simp only[kI] at hu;subst hu;rfl
 | .str,_,_,h=>by cases h;intro u hu;simp only[kI] at hu;subst hu;rfl
 | .nat,_,_,h=>by cases h;intro u hu;simp only[iD,tQ,wc,or_false] at hu;rcases hu with rfl | rfl<;>rfl
 | .z,_,_,h=>by cases h;intro u hu;simp only[zC,iD,tQ,wc,or_false] at hu;rcases hu with rfl | rfl | rfl<;>rfl
 | .q,_,_,h=>by cases h;intro u hu;simp only[qC,zC,iD,Ce,Aj,tQ,wc,or_false] at hu;rcases hu with rfl | rfl | rfl | rfl | rfl<;>rfl
 | .rn,_,_,h=>by obtain⟨v,rfl,h1⟩:=h;obtain⟨A,c,rfl⟩:=h1.form;intro u hu;simp only[kI] at hu;subst hu;rfl
 | .ri,_,_,h=>by obtain⟨v,rfl,h1⟩:=h;obtain⟨A,c,rfl⟩:=h1.form;intro u hu;simp only[tQ,wc,or_false] at hu;rcases hu with rfl | rfl<;>rfl
 | .rq,_,_,h=>by obtain⟨u,v,rfl,h1,h2⟩:=h;obtain⟨A,c,rfl⟩:=h1.form;obtain⟨A',c',rfl⟩:=h2.form;intro u hu;simp only[tQ,wc,or_false] at hu;rcases hu with rfl | rfl | rfl<;>rfl
 | .un,_,_,h=>by cases h;intro u hu;cases hu
 | .iB,_,_,h=>by cases h;intro u hu;simp only[kI] at hu;subst hu;rfl
 | .oq,_,_,h=>by
  rcases h with ⟨_,rfl⟩ | ⟨q,u,v,_,rfl,h1,h2⟩
  ·intro u hu;simp only[tQ,wc,or_false] at hu;rcases hu with rfl | rfl | rfl<;>rfl
  ·obtain⟨A,c,rfl⟩:=h1.form;obtain⟨A',c',rfl⟩:=h2.form;intro u hu;simp only[tQ,wc,or_false] at hu;rcases hu with rfl | rfl | rfl<;>rfl
 | .pr a b,_,_,h=>by
  obtain⟨c,d,rfl,h1,h2⟩:=h;intro u hu;rcases x9.1 hu with hu | hu
  ·exact h1.one u hu
  ·exact h2.one u hu
 | .list _,_,_,h=>by obtain⟨A,c,rfl,_⟩:=h;intro u hu;simp only[kI] at hu;subst hu;rfl
theorem DI (b:Option (Nat×Nat×Nat)):(slV b).oneCell'=true:=by cases b<;>rfl
theorem Rel.one:∀{av:AV} {cs:List Value},av.sto=true->Rel ok w β av false cs->∀u∈cs,u.oneCell'=true
 | .k K x,_,_,h=>bj.one (K:=K) h
 | .dv,_,_,h=>by have h:_=[_]:=h;rw[h];intro u hu;simp only[kI] at hu;subst hu;rfl
 | .own id r sz,_,_,h=>by have h:_=[slV (β id r)]:=h;rw[h];intro u hu;simp only[kI] at hu;subst hu;exact DI _
 | .dT id r sz off len,_,_,h=>by
  unfold Rel at h;rcases h with ⟨_,A,c,h⟩ | ⟨g,C,n,_,_,h⟩
  ·rw[h];intro u hu;simp only[kI] at hu;subst hu;rfl
  ·rw[h];intro u hu;simp only[kI] at hu;subst hu;rfl
 | .pt ..,_,_,h=>by obtain⟨_,_,_,_,rfl⟩:=h;intro u hu;simp only[kI] at hu;subst hu;rfl
 | .pk ..,_,_,h=>by obtain⟨_,_,_,rfl,_⟩:=h;intro u hu;simp only[kI] at hu;subst hu;rfl
 | .cp K xs,_,_,h=>bj.one (K:=.list K) h.2
 | .fn ..,_,_,h=>by obtain⟨_,rfl,_⟩:=h;intro u hu;simp only[kI] at hu;subst hu;rfl
 | .nil,_,_,h=>by have h:_=[]:=h;rw[h];intro u hu;cases hu
 | .cons a b,_,hs,h=>by
  simp only[AV.sto,aI] at hs;obtain⟨c,d,h1,h2,rfl⟩:=h;intro u hu;rcases x9.1 (show u∈c++d from hu) with hu | hu
  ·exact Rel.one hs.1 h1 u hu
  ·exact Rel.one hs.2 h2 u hu
 | .agg fs,_,hs,h=>Rel.one (av:=fs) hs h
theorem aWk {a:AV} {c:List Value} (hs:a.sto=true) (hr:Rel ok w β a false c) (h1:a.row=true\/a.wid=1):(pack a.row c).cells.toList=c:=by
 cases gK:a.row with
 | true=>rfl
 | false=>
  have hw:a.wid=1:=by rcases h1 with h | h;rw[gK] at h;cases h;exact h
  have hl:=hr.len;rw[hw] at hl;obtain⟨u,rfl⟩:∃u,c=[u]:=by
   match c,hl with
   | [u],_=>exact⟨u,rfl⟩
  have ho:=Rel.one hs hr u (kI.2 rfl);simp only[pack,q9,CZ]
  cases u<;>first | rfl | cases ho
theorem gE {s:ByteArray} (h:ig s=true):s=⟨#[]⟩:=by
 unfold ig at h;rw[pj] at h
 cases s with
 | mk d=>
  have:d.toList=[]:=iP h;have:d = #[]:=by apply tP;simpa using this
  rw[this]
theorem qy:iD 0=[.int .u64 0,.string ⟨#[]⟩]:=by
 have h:=S6;unfold nV at h;injection h with h
 have:=Co Array.toList h;exact this
theorem je:∀{K:Kd} {cs:List Value},zK K cs=true->bj ok w K K.iC cs
 | .int k,cs,h=>by
  unfold zK at h;split at h
  ·simp only[aI,yp] at h;obtain⟨rfl,rfl⟩:=h;rfl
  ·cases h
 | .bool,cs,h=>by
  unfold zK at h;split at h
  ·rename_i b
   cases b
   ·rfl
   ·cases h
  ·cases h
 | .str,cs,h=>by
  unfold zK at h;split at h
  ·rw[gE h];rfl
  ·cases h
 | .nat,cs,h=>by
  unfold zK at h;split at h
  ·simp only[aI,yp] at h;obtain⟨rfl,h2⟩:=h;rw[gE h2];exact qy.symm
  ·cases h
 | .z,cs,h=>by
  unfold zK at h;split at h
  ·rename_i b n s;simp only[aI,yp,tE] at h;obtain⟨rfl,rfl,h2⟩:=h;rw[gE h2];show _=zC 0;rw[zC,show(0:Int).natAbs=0 from rfl,qy];rfl
  ·cases h
 | .q,cs,h=>by
  unfold zK at h;split at h
  ·rename_i b n s n' s';simp only[aI,yp,tE] at h;obtain⟨rfl,rfl,h2,rfl,h3⟩:=h;rw[gE h2,gE h3];show _=qC 0;rw[qC,zC,show(0:Rat).num.natAbs=0 from rfl,show d1 (0:Rat).den=0 from rfl,qy];rfl
  ·cases h
 | .rn,cs,h=>by
  unfold zK at h;split at h
  ·exact⟨_,rfl,bJ.nil w⟩
  ·cases h
 | .ri,cs,h=>by
  unfold zK at h;split at h
  ·rename_i b
   cases b
   ·exact⟨_,rfl,bJ.nil w⟩
   ·cases h
  ·cases h
 | .rq,cs,h=>by cases h
 | .iB,cs,h=>by cases h
 | .oq,cs,h=>by
  unfold zK at h;split at h
  ·rename_i b
   cases b
   ·exact .inl ⟨rfl,rfl⟩
   ·cases h
  ·cases h
 | .un,cs,h=>by
  unfold zK at h;split at h
  ·rfl
  ·cases h
 | .pr a b,cs,h=>by simp only[zK,aI] at h;exact⟨cs.take a.sz,cs.drop a.sz,(uX ..).symm,je h.1,je h.2⟩
 | .list _,cs,h=>by
  unfold zK at h;split at h
  ·exact⟨none,0,rfl,bX _,ia _,λay=>absurd rfl ay⟩
  ·cases h
theorem rC:∀{v:AV} {cs:List Value},zAV v cs=true->Rel ok w β v false cs
 | .k K x,cs,h=>by
  cases K with
  | int k=>simp only[zAV,aI,yp] at h;obtain⟨h1,rfl⟩:=h;exact je h1
  | bool=>simp only[zAV,aI,tE] at h;obtain⟨h1,rfl⟩:=h;exact je h1
  | str=>simp only[zAV,aI] at h;have:=gE h.2;subst this;exact je h.1
  | nat=>simp only[zAV,aI,pj] at h;obtain⟨h1,rfl⟩:=h;exact je h1
  | z=>simp only[zAV,aI,yp] at h;obtain⟨h1,rfl⟩:=h;exact je h1
  | q=>simp only[zAV,aI,yp,pj] at h;obtain⟨h1,h2,h3⟩:=h;have hx:x=(0:Rat):=Rat.ext h2 h3;subst hx;exact je h1
  | rn=>simp only[zAV,aI,pj] at h;obtain⟨h1,rfl⟩:=h;exact je h1
  | ri=>simp only[zAV,aI,yp] at h;obtain⟨h1,rfl⟩:=h;exact je h1
  | _=>cases h
 | .dv,cs,h=>by
  unfold zAV at h;split at h
  ·rfl
  ·cases h
 | .nil,cs,h=>by
  unfold zAV at h;split at h
  ·rfl
  ·cases h
 | .cons a b,cs,h=>by simp only[zAV,aI] at h;exact⟨cs.take a.wid,cs.drop a.wid,rC h.1,rC h.2,(uX ..).symm⟩
 | .agg fs,cs,h=>rC (v:=fs) h
 | .own ..,_,h=>by cases h
 | .dT ..,_,h=>by cases h
 | .pt ..,_,h=>by cases h
 | .pk ..,_,h=>by cases h
 | .cp ..,_,h=>by cases h
 | .fn ..,_,h=>by cases h
 | .eX ..,_,h=>by cases h
 | .ud,_,h=>by cases h
 | .no,_,h=>by cases h
theorem To:∀{fs:AV} {i:Nat} {v r:AV} {cs c:List Value},a3d fs i v=some r->Rel ok w β fs false cs->Rel ok w β v false c ->
  ∃pre mid suf,cs=pre++(mid++suf)/\pre.length=Mz fs i/\mid.length=v.wid/\Rel ok w β r false (pre++(c++suf)):=by
 intro fs
 induction fs with
 | cons a b _ ih=>
  intro i v r cs c h hr hc
  obtain⟨p,q,h1,h2,rfl⟩:=hr
  cases i with
  | zero=>
   simp only[a3d] at h
   cases hw:Nat.beq a.wid v.wid with
   | false=>rw[hw] at h;cases h
   | true=>
    rw[hw] at h
    simp only[fh,fK] at h
    subst h
    rw[pj] at hw
    exact⟨[],p,q,rfl,rfl,h1.len.trans hw,⟨c,q,hc,h2,rfl⟩⟩
  | succ n=>
   simp only[a3d] at h
   cases hb:a3d b n v with
   | none=>rw[hb] at h;cases h
   | some y=>
    rw[hb] at h
    simp only[fK] at h
    subst h
    obtain⟨pre,mid,suf,rfl,h3,h4,h5⟩:=ih hb h2 hc
    exact⟨p++pre,mid,suf,by simp,by rw[c6,h1.len,h3];rfl,h4,⟨p,_,h1,h5,by simp⟩⟩
 | _=>intro i v r cs c h;cases i<;>cases h
theorem zc {pl:List (Nat×Nat)}:∀{parts:List (Nat×Operand)} {fs r:AV} {cs:List Value},a2v m pl fs parts=some r->(∀p∈parts,aq ok w β (ev m p.2) (ρ p.2))->Rel ok w β fs false cs ->
  ∃sT,Instr.fill (pl.toArray[·]?) cs.toArray (parts.map λp=>(p.1, ρ p.2))=some sT.toArray/\Rel ok w β r false sT
 | [],fs,r,cs,h,_,hr=>by simp only[a2v,fK] at h;subst h;exact⟨cs,rfl,hr⟩
 | (i,x)::parts,fs,r,cs,h,hp,hr=>by
  unfold a2v at h
  cases vV:pl[i]? with
  | none=>rw[vV] at h;cases h
  | some os=>
   rw[vV] at h;simp only at h
   cases hb:Nat.beq (Mz fs i) os.1&&(Nat.beq os.2 (ev m x).wid&&((ev m x).sto&&((ev m x).row||Nat.beq (ev m x).wid 1))) with
   | false=>rw[hb] at h;cases h
   | true=>
    rw[hb,fh] at h;simp only[aI,xP,pj] at hb;obtain⟨h1,h2,h3,h4⟩:=hb
    cases hs:a3d fs i (ev m x) with
    | none=>rw[hs] at h;cases h
    | some y=>rw[hs] at h;obtain⟨c,hc,hv⟩:=hp (i,x) (tF ..);simp only at hc hv;obtain⟨pre,mid,suf,rfl,h5,h6,h7⟩:=To hs hr hc;obtain⟨sT,h8,h9⟩:=zc h (λp hp'=>hp p (qZ _ hp')) h7;refine⟨sT,?_,h9⟩;have rD:=aWk h3 hc h4;rw[Ag,sV (off:=os.1) (sz:=os.2) (pre:=pre) (mid:=mid) (suf:=suf) (by simpa using vV) (by rw[<-tL,hv,rD,hc.len,h2]) rfl (h5.trans h1) (h6.trans h2.symm)];rw[hv,rD];exact h8
theorem Ot {T:vN} {t:TypeId} {parts:Array (Nat×Operand)} {v:AV} {bm g:Option Prop} (ho:o.op = .build t parts) (hx:∀p∈parts.toList,aq (Ok F w0 β H) w β (ev m p.2) (ρ p.2)) (h:a4k P T m t parts=some (bm,g,v)):Qt P F w0 w β H ρ o bm g v:=by
 unfold a4k at h;split at h
 ·rename_i it fds fs hi hu hz;split at h
  ·rename_i z pl hiz vV
   cases hb:zAV fs z.cells.toList with
   | false=>rw[hb] at h;cases h
   | true=>
    rw[hb,fh] at h
    cases hs:a2v m pl fs parts.toList with
    | none=>rw[hs] at h;cases h
    | some r=>
     rw[hs] at h;obtain⟨rfl,rfl,rfl⟩:=bY h;obtain⟨sT,h1,h2⟩:=zc hs hx (rC (ok:=Ok F w0 β H) (w:=w) (β:= β) hb);refine Qt.val trivial λ_=>⟨?_,sT,h2,rfl⟩
     have Yv:P.built t (parts.map λp=>(p.1, ρ p.2)).toList=some sT.toArray:=by unfold Program.built;rw[hi,hu];simp only[hiz,vV];rw[yr] at h1;rw[Array.toList_map];exact h1
     unfold execOp;simp only[ho,Sem.run_bind,run_build w t _ _ Yv,Result.andThen_ok,Sem.run_pure];rfl
  ·cases h
 ·cases h
theorem DJ {b:Bool} {n:Nat} (h:b=true->n≠0):decide (bW b n<0)=b:=by
 cases b with
 | true=>have:=h rfl;exact tC (show -(n:Int)<0 by omega)
 | false=>exact nS (show ¬((n:Nat):Int)<0 by omega)
theorem rE {b:Bool} {n:Nat}:(bW b n).natAbs=n:=by cases b<;>simp[bW]
theorem j9 {x:Int} {d:Nat} (h:d≠0) (hc:x.natAbs.Coprime d):(mkRat x d).num=x/\(mkRat x d).den=d:=by have:(⟨x,d,h,hc⟩:Rat)=mkRat x d:=Hs ..;rw[<-this];exact⟨rfl,rfl⟩
theorem Ih {x:Int} {d:Nat} (h:On x d):(j6 x d).num=x/\d1 (j6 x d).den=d:=by
 unfold j6;rcases h with rfl | ⟨h1,h2⟩
 ·obtain⟨e1,e2⟩:=j9 (x:=x) (d:=1) (by omega) (Nat.coprime_one_right _);exact⟨e1,by simp only[fi];rw[e2];rfl⟩
 ·by_cases h0:d=0
  ·subst h0;obtain⟨e1,e2⟩:=j9 (x:=x) (d:=1) (by omega) (Nat.coprime_one_right _);exact⟨e1,by simp only[fi];rw[e2];rfl⟩
  ·obtain⟨e1,e2⟩:=j9 (x:=x) (d:=d) h0 h2;rw[dw h0];exact⟨e1,by rw[e2];simp[d1,h1]⟩
theorem Ou {ok:Nat->Prop} {T:vN} {t:TypeId} {v:AV} {cs:List Value} (hr:Rel ok w β v false cs) (hg:bt (a2w T t v).1):Rel ok w β (a2w T t v).2 false cs/\(a2w T t v).2.row=v.row:=by
 unfold a2w at hg ⊢;split at hg
 ·rename_i b n
  cases hb:Nat.beq t T.z with
  | false=>exact⟨hr,rfl⟩
  | true=>rw[hb] at hg;have hg:b=true->n≠0:=hg;refine⟨?_,rfl⟩;exact(fL (K:=.z) (x:=bW b n) rfl (by rw[DJ hg,rE];exact hr)).1
 ·rename_i x d
  cases hb:Nat.beq t T.q with
  | false=>exact⟨hr,rfl⟩
  | true=>rw[hb] at hg;obtain⟨e1,e2⟩:=Ih (show On x d from hg);refine⟨?_,rfl⟩;exact(fL (K:=.q) (x:=j6 x d) rfl (by rw[e1,e2];exact hr)).1
 ·rename_i b n
  cases hb:Nat.beq t T.ri with
  | false=>exact⟨hr,rfl⟩
  | true=>rw[hb] at hg;have hg:b=true->n≠0:=hg;refine⟨?_,rfl⟩;exact(fL (K:=.ri) (x:=bW b n) rfl (by rw[DJ hg,rE];exact hr)).1
 ·rename_i x d
  cases hb:Nat.beq t T.rq with
  | false=>exact⟨hr,rfl⟩
  | true=>rw[hb] at hg;obtain⟨e1,e2⟩:=j9 (show Tg x d from hg).1 (show Tg x d from hg).2;refine⟨?_,rfl⟩;exact(fL (K:=.rq) (x:=mkRat x d) rfl (by rw[e1,e2];exact hr)).1
 ·exact⟨hr,rfl⟩
theorem Ii {T:vN} {t:TypeId} {parts:Array (Nat×Operand)} {v:AV} {bm g:Option Prop} (ho:o.op = .build t parts) (hx:∀p∈parts.toList,aq (Ok F w0 β H) w β (ev m p.2) (ρ p.2)) (h:a4l P T m t parts=some (bm,g,v)):Qt P F w0 w β H ρ o bm g v:=by
 unfold a4l at h;split at h
 ·rename_i v1 hb;injection h with h;injection h with h1 h;injection h with h2 h3
  subst h1;subst h2;subst h3;obtain⟨_,h2⟩:=Ot ho hx hb;refine⟨trivial,λhg=>(h2 trivial).mono λu w' hh=>⟨hh.1,?_⟩⟩;obtain⟨cs,hr,he⟩:=hh.2;obtain⟨h3,h4⟩:=Ou hr hg;exact⟨cs,h3,by rw[h4];exact he⟩
 ·cases h
end
section
variable {P:Program} {Tb:World->Prop} {F B0:Nat->Prop} {w0 w:World} {β:Bm} {H:Hp} {ρ:Operand->Value} {o:Oper} {m:Sl} {ok:Nat->Prop}
def qb:Option Int->Option Value->Prop
 | none,v=>v=none
 | some i,v=>∃k,v=some (.int k i)
theorem vW {t:TypeId} {s n c:Nat} {A:Option Addr} {l h mx:Option Int} {lv hv mv:Option Value} (ht:aYO P t=some s) (hl:qb l lv) (hh:qb h hv) (hm:qb mx mv) (hg:rz n l h mx) (hc:n<=c) :
  (Instr.sliceAt t (.slice A n c) lv hv mv).run P w = .ok (.slice (if eG c mx=fb l then A else A.map (·.add (fb l*s))) (eG n h-fb l) (eG c mx-fb l)) w:=by
 unfold aYO at ht
 split at ht
 ·rename_i e hu
  obtain⟨inf,Tn,rfl⟩:=ja.1 ht
  have hb:(Instr.sliceBounds true n c lv hv mv).run P w = .ok (fb l,eG n h,eG c mx) w:=by
   cases l with
   | none=>
    have hl:lv=none:=hl;subst hl
    cases h with
    | none=>
     cases mx with
     | none=>have hh:hv=none:=hh;have hm:mv=none:=hm;subst hh;subst hm;simp[Instr.sliceBounds,fb,eG]
     | some mx=>exact hg.elim
    | some h=>
     obtain⟨k,rfl⟩:=hh
     cases mx with
     | none=>have hm:mv=none:=hm;subst hm;have hg:0<=h/\h<=(n:Int):=hg;simp[Instr.sliceBounds,run_sliceBound,fb,eG,hg.1,show h<=(c:Int) by omega]
     | some mx=>obtain⟨k',rfl⟩:=hm;obtain⟨h1,h2,rfl⟩:0<=h/\h<=(n:Int)/\mx=h:=hg;have e:(mx.toNat:Int)=mx:=CO h1;simp[Instr.sliceBounds,run_sliceBound,fb,eG,h1,show mx<=(c:Int) by omega,e]
   | some l=>
    obtain⟨kl,rfl⟩:=hl
    cases h with
    | none=>
     cases mx with
     | none=>have hh:hv=none:=hh;have hm:mv=none:=hm;subst hh;subst hm;have hg:0<=l/\l<=(n:Int):=hg;simp[Instr.sliceBounds,run_sliceBound,fb,eG,hg.1,hg.2]
     | some mx=>exact hg.elim
    | some h=>
     obtain⟨k,rfl⟩:=hh
     cases mx with
     | none=>have hm:mv=none:=hm;subst hm;have hg:0<=l/\l<=h/\h<=(n:Int):=hg;have e:(h.toNat:Int)=h:=CO (by omega);simp[Instr.sliceBounds,run_sliceBound,fb,eG,hg.1,hg.2.1,e,show 0<=h by omega,show h<=(c:Int) by omega]
     | some mx=>obtain⟨k',rfl⟩:=hm;obtain⟨h0,h1,h2,rfl⟩:0<=l/\l<=h/\h<=(n:Int)/\mx=h:=hg;have e:(mx.toNat:Int)=mx:=CO (by omega);simp[Instr.sliceBounds,run_sliceBound,fb,eG,h0,h1,show 0<=mx by omega,show mx<=(c:Int) by omega,e]
  unfold Instr.sliceAt
  simp only[Sem.run_bind,run_underlying hu w,Result.andThen_ok,Instr.slice,hb,sizeOf,typeInfo]
  simp[Tn]
 ·cases ht
theorem kE {sz:Nat}:∀{css:List (List Value)} {k:Nat},(∀c∈css,c.length=sz)->k<=css.length->(css.take k).flatten.length=k*sz
 | [],k,_,h=>by
  have:k=0:=by simpa using h
  subst this;simp
 | d::css,0,_,_=>by simp
 | d::css,k+1,hs,h=>by rw[List.take_succ_cons,Cs,c6,kE (k:=k) (λc hc=>hs c (qZ _ hc)) (by simpa using h),hs d (tF ..),nP,qU,Aa]
theorem Ov {K:Kd} {xs:List K.T} {A:Option Addr} {c:Nat} (hr:bj ok w (.list K) xs [.slice A xs.length c]) {l h m':Nat} (h1:l<=h) (h2:h<=xs.length) (h3:h<=m') :
  bj ok w (.list K) ((xs.take h).drop l) [.slice (if m'=l then A else A.map (·.add (l*K.sz))) (h-l) (m'-l)]:=by
 obtain⟨A',c',he,hc,fT,hh⟩:=hr
 injection he with he _
 injection he with e1 _ e2
 subst e1;subst e2
 have hlen:((xs.take h).drop l).length=h-l:=by rw[Cf,iY];omega
 refine⟨_,m'-l,by rw[hlen],by rw[hlen];omega,by rw[hlen];omega,λay=>?_⟩
 have aU:l<h:=by
  rcases aV l h with h' | h'
  ·exact h'
  ·exact absurd (iP (by rw[hlen];omega)) ay
 obtain⟨g,off,css,rfl,a2,a3,a4,a5,a6⟩:=hh (λe=>by rw[e] at h2;simp at h2;omega)
 rw[dw (by omega)]
 have hs:=rA a5 a6
 refine⟨g,off+l*K.sz,(css.take h).drop l,by simp[Addr.add_lit],a2,a3,?_,by rw[Cf,iY,a5,hlen];omega,λi x c hx hc=>?_⟩
 ·have e:css=css.take l++((css.take h).drop l++css.drop h):=by
   have h4:(css.take h).take l=css.take l:=by rw[Az,pw h1]
   have h5:=uX l (css.take h);rw[h4] at h5;rw[<-vv,h5,uX]
  rw[e,CP,CP] at a4
  have:=a4.mid
  rwa [kE hs (by omega)] at this
 ·rw[Aq] at hx hc
  have hi:l+i<h:=by
   rcases aV (l+i) h with h' | h'
   ·exact h'
   ·rw[iQ (by rw[iY];omega)] at hx;cases hx
  rw[tM hi] at hx hc
  exact a6 _ x c hx hc
theorem DK {α:Type} {xs:List α} {l h mx:Option Int} (hg:rz xs.length l h mx):aM9 xs l h=(xs.take (eG xs.length h)).drop (fb l):=by cases l<;>cases h<;>simp[aM9,fb,eG]
theorem Tp {n c:Nat} {l h mx:Option Int} (hg:rz n l h mx) (hc:n<=c):fb l<=eG n h/\eG n h<=n/\eG n h<=eG c mx/\(∀m,mx=some m->eG c mx=eG n h):=by
 cases l with
 | none=>
  cases h with
  | none=>
   cases mx with
   | none=>exact⟨ia _,bX _,hc,λ_ e=>by cases e⟩
   | some m=>exact hg.elim
  | some h=>
   cases mx with
   | none=>have hg:0<=h/\h<=(n:Int):=hg;simp only[fb,eG];exact⟨by omega,by omega,by omega,λ_ e=>by cases e⟩
   | some m=>have hg:0<=h/\h<=(n:Int)/\m=h:=hg;simp only[fb,eG];exact⟨by omega,by omega,by omega,λ_ _=>by rw[hg.2.2]⟩
 | some l=>
  cases h with
  | none=>
   cases mx with
   | none=>have hg:0<=l/\l<=(n:Int):=hg;simp only[fb,eG];exact⟨by omega,by omega,by omega,λ_ e=>by cases e⟩
   | some m=>exact hg.elim
  | some h=>
   cases mx with
   | none=>have hg:0<=l/\l<=h/\h<=(n:Int):=hg;simp only[fb,eG];exact⟨by omega,by omega,by omega,λ_ e=>by cases e⟩
   | some m=>have hg:0<=l/\l<=h/\h<=(n:Int)/\m=h:=hg;simp only[fb,eG];exact⟨by omega,by omega,by omega,λ_ _=>by rw[hg.2.2.2]⟩
theorem mz {x:Option Operand} {l:Option Int} (h:a4b m x=some l) (hx:∀y,x=some y->aq ok w β (ev m y) (ρ y)):qb l (x.map ρ):=by
 cases x with
 | none=>simp only[a4b,fK] at h;subst h;rfl
 | some y=>
  unfold a4b at h;simp only at h;have hy:=hx y rfl;split at h
  ·rename_i k i he;injection h with h
   subst h;rw[he] at hy;exact⟨k,by rw[Ht,hy.int]⟩
  ·cases h
theorem Ow {t:TypeId} {x:Operand} {lo hi mx:Option Operand} {l h' m':Option Int} {a v:AV} {bm g:Option Prop} (ho:o.op = .slice t x lo hi mx) (hx:aq (Ok F w0 β H) w β a (ρ x)) (hl:qb l (lo.map ρ)) (hh:qb h' (hi.map ρ)) (hm:qb m' (mx.map ρ)) (h:a4i P t a l h' m'=some (bm,g,v)):Qt P F w0 w β H ρ o bm g v:=by
 have core:∀{s:Nat} {K:Kd} {xs:List K.T} {c:List Value},aYO P t=some s->s=K.sz->bj (Ok F w0 β H) w (.list K) xs c->ρ x=pack false c->rz xs.length l h' m' ->
   ∃A c',c=[.slice A xs.length c']/\(execOp ρ o).run P w = .ok (.value (.slice (if eG c' m'=fb l then A else A.map (·.add (fb l*s))) (eG xs.length h'-fb l) (eG c' m'-fb l))) w /\
    bj (Ok F w0 β H) w (.list K) (aM9 xs l h') [.slice (if eG c' m'=fb l then A else A.map (·.add (fb l*s))) (eG xs.length h'-fb l) (eG c' m'-fb l)]/\(aM9 xs l h').length=eG xs.length h'-fb l/\(∀q,m'=some q->eG c' m'=eG xs.length h'):=by
  intro s K xs c hs br hr hv hg
  obtain⟨A,c',he,hc,h4,h5⟩:=hr
  obtain⟨g1,g2,g3,g4⟩:=Tp hg hc
  have uG:bj (Ok F w0 β H) w (.list K) xs [.slice A xs.length c']:=⟨A,c',rfl,hc,h4,h5⟩
  have hk:=Ov uG g1 g2 g3
  rw[<-DK hg,<-br] at hk
  refine⟨A,c',he,?_,hk,by rw[DK hg,Cf,iY];omega,g4⟩
  unfold execOp
  rw[he] at hv
  simp only[pack,q9,CZ] at hv
  simp only[ho,hv,vW hs hl hh hm hg hc,Sem.run_bind,Result.andThen_ok,Sem.run_pure]
 unfold a4i at h;obtain⟨c,hc,hv⟩:=hx;have fin:∀{s:Nat} {K:Kd} {xs:List K.T},aYO P t=some s->bj (Ok F w0 β H) w (.list K) xs c->ρ x=pack false c->(bif Nat.beq s K.sz then qg (rz xs.length l h' m') (match m' with | none=>.k (.list K) (aM9 xs l h') | some _=>.cp K (aM9 xs l h')) else none)=some (bm,g,v)->Qt P F w0 w β H ρ o bm g v:=by
  intro s K xs hs hr hv h
  cases hb:Nat.beq s K.sz with
  | false=>rw[hb] at h;cases h
  | true=>
   rw[hb,fh] at h;rw[pj] at hb;obtain⟨rfl,rfl,rfl⟩:=aqN h;refine⟨trivial,λhg=>?_⟩;obtain⟨A,c',rfl,h1,h2,h3,h4⟩:=core hs hb hr hv hg;refine cO h1 ⟨Ext.refl w,?_⟩
   cases m' with
   | none=>exact⟨_,h2,rfl⟩
   | some q=>refine⟨_,⟨⟨if eG c' (some q)=fb l then A else A.map (·.add (fb l*s)),?_⟩,h2⟩,rfl⟩;rw[h3,h4 q rfl]
 split at h
 ·rename_i s K xs hs;exact fin hs hc hv h
 ·rename_i s K xs hs;exact fin hs hc.2 hv h
 ·cases h
theorem Ij (M:Mem Tb F B0 w0 β H w) {t:TypeId} {x:Operand} {lo hi mx:Option Operand} {l h' m':Option Int} {a v:AV} {bm g:Option Prop} (ho:o.op = .slice t x lo hi mx) (hx:aq (Ok F w0 β H) w β a (ρ x)) (hl:qb l (lo.map ρ)) (hh:qb h' (hi.map ρ)) (hm:qb m' (mx.map ρ)) (h:a4j P H t a l h' m'=some (bm,g,v)):Qt P F w0 w β H ρ o bm g v:=by
 unfold a4j at h;split at h
 ·rename_i s id sz hs;split at h
  ·rename_i oo e K out ai hH
   cases hb:(Nat.beq s 1&&Nat.beq sz 1) with
   | false=>rw[hb] at h;cases h
   | true=>
    rw[hb,fh] at h;simp only[aI,pj] at hb;obtain⟨rfl,rfl⟩:=hb;obtain⟨c,hc,hv⟩:=hx;have hc:c=[slV (β id 0)]:=hc;subst hc;have hv:ρ x=slV (β id 0):=hv;have core:rz out.length l h' none->fb l<=eG out.length h'->eG out.length h'<=out.length->Stp P ρ o w λu w'=>Ext w w'/\aq (Ok F w0 β H) w' β (.dT id 0 1 (fb l) (eG out.length h'-fb l)) u:=by
     intro hg h1 h2;have run:∀{A:Option Addr} {C:Nat},out.length<=C->ρ x = .slice A out.length C->(execOp ρ o).run P w = .ok (.value (.slice (if eG C none=fb l then A else A.map (·.add (fb l*1))) (eG out.length h'-fb l) (eG C none-fb l))) w:=fun {A C} hC hv=>by unfold execOp;simp only[ho,hv,vW (mx:=none) hs hl hh hm hg hC,Sem.run_bind,Result.andThen_ok,Sem.run_pure]
     obtain⟨⟨hn,dZ⟩ | ⟨g',C,cs,sp,q1,q2,q3,q4,q5,q6⟩,_⟩:=M.dD id _ hH
     ·rw[hn] at hv;have h0:eG out.length h'-fb l=0:=by rw[dZ] at h2 ⊢;simp only[Cq] at h2 ⊢;omega
      have hr:=run (A:=none) (C:=0) (by rw[dZ];exact bX _) (by rw[hv,dZ];rfl);rw[h0] at hr ⊢;exact cO hr ⟨Ext.refl w,[_],.inl ⟨rfl,_,_,rfl⟩,rfl⟩
     ·rw[q1] at hv;have hC:out.length<=C:=by rw[<-q4,c6,q3];omega
      have hr:=run hC hv;rcases gA (eG out.length h'-fb l) with h0 | h0
      ·rw[h0] at hr ⊢;exact cO hr ⟨Ext.refl w,[_],.inl ⟨rfl,_,_,rfl⟩,rfl⟩
      ·have ay:¬eG C none=fb l:=by show ¬C=fb l;omega
       rw[dw ay] at hr;refine cO hr ⟨Ext.refl w,[_],.inr ⟨g',C,out.length,q1,by omega,?_⟩,rfl⟩;simp[Addr.add_lit,eG]
    split at h
    ·rename_i l;obtain⟨rfl,rfl,rfl⟩:=aqN h;refine⟨trivial,λhg=>?_⟩;have hg:0<=l/\l<=((out.length:Nat):Int):=hg;exact core hg (by show l.toNat<=out.length;omega) (bX _)
    ·rename_i h0;obtain⟨rfl,rfl,rfl⟩:=aqN h;refine⟨trivial,λhg=>?_⟩;have hg:0<=h0/\h0<=((out.length:Nat):Int):=hg;exact core hg (ia _) (by show h0.toNat<=out.length;omega)
    ·rename_i l h0;obtain⟨rfl,rfl,rfl⟩:=aqN h;refine⟨trivial,λhg=>?_⟩;have hg:0<=l/\l<=h0/\h0<=((out.length:Nat):Int):=hg;exact core hg (by show l.toNat<=h0.toNat;omega) (by show h0.toNat<=out.length;omega)
    ·cases h
  ·cases h
 ·cases h
theorem zd:∀{l:List Operand},(∀x∈l,aq ok w β (ev m x) (ρ x))->Rel ok w β (vO (l.map (ev m))) true (l.map ρ)
 | [],_=>rfl
 | x::l,h=>by obtain⟨c,hc,hv⟩:=h x (tF ..);exact⟨c,l.map ρ,hc,zd λy hy=>h y (qZ _ hy),by rw[Ag,hv];rfl⟩
theorem AR {f:FuncId} {iE:Array Operand} (ho:o.op = .makeFunc (.func f) #[] iE) (hx:∀x∈iE.toList,aq (Ok F w0 β H) w β (ev m x) (ρ x)):Qt P F w0 w β H ρ o none none (.fn f (vO (iE.toList.map (ev m)))):=by
 refine Qt.val (u:=.func (.func f) #[] (iE.toList.map ρ).toArray) trivial λ_=>⟨?_,[_],⟨_,rfl,zd hx⟩,rfl⟩
 unfold execOp;have e:(iE.toList.map ρ).toArray=iE.map ρ:=by apply tP;simp
 simp only[ho,Instr.makeFunc,Sem.run_bind,Sem.run_pure,Result.andThen_ok,e];simp
theorem run_len_slice {t ty:TypeId} {e:TypeId} {A:Option Addr} {n c:Nat} (h:P.underlying t=some (.slice e)):(Builtin.len_ #[t] ty #[.slice A n c]).run P w = .ok (.int .i64 (n:Int)) w:=by simp[Builtin.len_,run_underlying h,goInt]
theorem run_len_string {t ty:TypeId} {s:ByteArray} (h:P.underlying t=some .string):(Builtin.len_ #[t] ty #[.string s]).run P w = .ok (.int .i64 (s.size:Int)) w:=by simp[Builtin.len_,run_underlying h,goInt]
theorem DL:∀(e:Kd) (xs:List e.T),mr e xs=some (some (xs.length<=vM e),none,.k (.int .i64) ((xs.length:Nat):Int)):=λe xs=>by cases e<;>rfl
theorem DM {b:Option (Nat×Nat×Nat)} {e:TypeId} {K:Kd} {xs:List K.T} (h:aS ok w b e K xs):xs.length<=aB/\∃A c,slV b = .slice A xs.length c:=by
 cases b with
 | none=>have h:xs=[]:=h;subst h;exact⟨ia _,none,0,rfl⟩
 | some gc=>obtain⟨css,sp,h1,h2,h3,h4,h5,h6,h7⟩:=h;exact⟨h7,_,gc.2.1,by rw[<-h5];rfl⟩
theorem DN (M:Mem Tb F B0 w0 β H w) {c:Call} {t:TypeId} {x:Operand} {v:AV} {bm g:Option Prop} (ho:o.op = .call c) (hb:c.callee = .builtin .len) (ht:c.argTypes.toList=[t]) (ha:c.args.toList=[x]) (hx:aq (Ok F w0 β H) w β (ev m x) (ρ x)) (h:a5F P H t (ev m x)=some (bm,g,v)):Qu P F w0 w β H ρ o bm g v:=by
 have gW:c.args = #[x]:=by apply tP;exact ha
 have mA:c.argTypes = #[t]:=by apply tP;exact ht
 have run:∀{u:Value} {w:World},(Builtin.len_ #[t] o.type #[ρ x]).run P w = .ok u w->(execOp ρ o).run P w = .ok (.value u) w:=by intro u w hu;unfold execOp;simp[ho,resolve,hb,gW,mA,invoke,builtin,hu]
 generalize ev m x=a at *
 obtain⟨cs,hc,hv⟩:=hx;unfold a5F at h;split at h
 ·rename_i e hu;have fin:∀{A:Option Addr} {n cp:Nat},cs=[.slice A n cp]->a.row=false->∀w,(execOp ρ o).run P w = .ok (.value (.int .i64 (n:Int))) w:=by
   intro A n cp he hr w;refine run ?_;rw[hv,he,hr];exact run_len_slice hu
  split at h
  ·rename_i K xs;rw[DL] at h;injection h with h;injection h with h1 h;injection h with h2 h
   subst h1;subst h2;subst h;obtain⟨A,cp,rfl,_,h4,_⟩:=hc;exact Qu.val h4 λ_=>⟨fin rfl rfl,.mkInt _ _⟩
  ·rename_i K xs;rw[DL] at h;injection h with h;injection h with h1 h;injection h with h2 h
   subst h1;subst h2;subst h;obtain⟨_,A,cp,rfl,_,h4,_⟩:=hc;exact Qu.val h4 λ_=>⟨fin rfl rfl,.mkInt _ _⟩
  ·obtain⟨rfl,rfl,rfl⟩:=bY h;have hc:cs=[.slice none 0 0]:=hc;exact Qu.val trivial λ_=>⟨fin hc rfl,.mkInt _ _⟩
  ·rename_i x;obtain⟨rfl,rfl,rfl⟩:=bY h;obtain⟨v,hc,hr⟩:=hc;obtain⟨A,cp,rfl⟩:=hr.form;exact Qu.val trivial λ_=>⟨fin hc rfl,.mkInt _ _⟩
  ·rename_i id sz;split at h
   ·rename_i e' K xs hH;injection h with h;injection h with h1 h;injection h with h2 h
    subst h1;subst h2;subst h;obtain⟨h4,A,cp,h5⟩:=DM (M.dD id _ hH);have hc:cs=[slV (β id 0)]:=hc;rw[h5] at hc;exact Qu.val h4 λ_=>⟨fin hc rfl,.mkInt _ _⟩
   ·rename_i oo e' K out ai hH;injection h with h;injection h with h1 h;injection h with h2 h
    subst h1;subst h2;subst h;have hc:cs=[slV (β id 0)]:=hc;obtain⟨⟨hn,rfl⟩ | ⟨g',C,sT,sp,h1,h2,h3,h4,h5,h6⟩,_⟩:=M.dD id _ hH
    ·rw[hn] at hc;exact Qu.val (ia _) λ_=>⟨fin hc rfl,.mkInt _ _⟩
    rw[h1] at hc;exact Qu.val h5 λ_=>⟨fin hc rfl,.mkInt _ _⟩
   ·cases h
  ·rename_i id p sz;split at h
   ·rename_i oo e' K out ai hH;injection h with h;injection h with h1 h;injection h with h2 h
    subst h1;subst h2;subst h;have hm:=M.dD id _ hH;have hc:cs=[slV (β id (p+1))]:=hc;have key:(ai.getD p []).length<=aB/\(p<ai.length->∃A cp,slV (β id (p+1)) = .slice A (ai.getD p []).length cp):=by
     rcases aV p ai.length with h' | h'
     ·obtain⟨h4,A,cp,h5⟩:=DM (hm.2.1 p _ (fG h' []));exact⟨h4,λ_=>⟨A,cp,h5⟩⟩
     ·rw[au,iQ h'];exact⟨ia _,λhp=>by omega⟩
    refine⟨key.1,λhp=>?_⟩;obtain⟨A,cp,h5⟩:=key.2 hp;rw[h5] at hc;exact⟨_,fin hc rfl,.mkInt _ _⟩
   ·cases h
  ·rename_i id sz off len;split at h
   ·rename_i oo e' K out ai hH;injection h with h;injection h with h1 h;injection h with h2 h
    subst h1;subst h2;subst h;have key:len<=aB/\∃A cp,cs=[.slice A len cp]:=by
     rcases hc with ⟨rfl,A,cp,h4⟩ | ⟨g',C,n',bN,h4,h5⟩
     ·exact⟨ia _,A,cp,h4⟩
     ·refine⟨?_,_,_,h5⟩;obtain⟨⟨hn,_⟩ | ⟨g2,C2,sT,sp,h1,h2,h3,h6,h7,h8⟩,_⟩:=M.dD id _ hH
      ·rw[hn] at bN;cases bN
      ·rw[h1] at bN;injection bN with bN
       injection bN with _ bN;injection bN with _ bN;omega
    obtain⟨k1,A,cp,k2⟩:=key;exact Qu.val k1 λ_=>⟨fin k2 rfl,.mkInt _ _⟩
   ·cases h
  ·cases h
 ·rename_i hu;split at h
  ·rename_i s;obtain⟨rfl,rfl,rfl⟩:=bY h;have hc:cs=[.string s]:=hc;refine Qu.val trivial λ_=>⟨λw=>run ?_,.mkInt _ _⟩
   rw[hv,hc];exact run_len_string hu
  ·cases h
 ·cases h
theorem Yw (M:Mem Tb F B0 w0 β H w) {c:Call} {t:TypeId} {x:Operand} {v:AV} {bm g:Option Prop} (ho:o.op = .call c) (hb:c.callee = .builtin .len) (ht:c.argTypes.toList=[t]) (ha:c.args.toList=[x]) (hx:aq (Ok F w0 β H) w β (ev m x) (ρ x)) (h:a5F P H t (ev m x)=some (bm,g,v)):Qt P F w0 w β H ρ o bm g v:=(DN M ho hb ht ha hx h).qt
theorem Yx {c:Call} {x y:Operand} {v:AV} {bm g:Option Prop} (ho:o.op = .call c) (hb:c.callee = .builtin .min) (ha:c.args.toList=[x,y]) (hx:aq (Ok F w0 β H) w β (ev m x) (ρ x)) (hy:aq (Ok F w0 β H) w β (ev m y) (ρ y)) (h:a50 [ev m x,ev m y]=some (bm,g,v)):Qt P F w0 w β H ρ o bm g v:=by
 have gW:c.args = #[x,y]:=by apply tP;exact ha
 generalize ev m x=a at *
 generalize ev m y=b at *
 unfold a50 at h;split at h
 ·rename_i k x' k' y' heq;simp only[List.cons.injEq,and_true] at heq;obtain⟨rfl,rfl⟩:=heq
  cases hk:(k == k') with
  | false=>rw[hk] at h;cases h
  | true=>
   rw[hk,fh] at h;have hk:k=k':=eq_of_beq hk;subst hk;obtain⟨rfl,rfl,rfl⟩:=bY h;refine Qt.val trivial λ_=>⟨?_,.mkInt _ _⟩
   unfold execOp;simp[ho,resolve,hb,gW,invoke,builtin,Builtin.min_,Builtin.min2,hx.int,hy.int]
 ·cases h
theorem aIv {c:Call} {x y:Operand} {v:AV} {bm g:Option Prop} (ho:o.op = .call c) (hb:c.callee = .builtin .max) (ha:c.args.toList=[x,y]) (hx:aq (Ok F w0 β H) w β (ev m x) (ρ x)) (hy:aq (Ok F w0 β H) w β (ev m y) (ρ y)) (h:aHn [ev m x,ev m y]=some (bm,g,v)):Qt P F w0 w β H ρ o bm g v:=by
 have gW:c.args = #[x,y]:=by apply tP;exact ha
 generalize ev m x=a at *
 generalize ev m y=b at *
 unfold aHn at h;split at h
 ·rename_i k x' k' y' heq;simp only[List.cons.injEq,and_true] at heq;obtain⟨rfl,rfl⟩:=heq
  cases hk:(k == k') with
  | false=>rw[hk] at h;cases h
  | true=>
   rw[hk,fh] at h;have hk:k=k':=eq_of_beq hk;subst hk;obtain⟨rfl,rfl,rfl⟩:=bY h;refine Qt.val trivial λ_=>⟨?_,.mkInt _ _⟩
   unfold execOp;simp[ho,resolve,hb,gW,invoke,builtin,Builtin.max_,Builtin.max2,hx.int,hy.int]
 ·cases h
end
section
variable {C:bO} {F B0:Nat->Prop} {w0 w:World} {β:Bm} {H:Hp} {ρ:Operand->Value} {o:Oper} {m:Sl}
theorem aXy:∀{l:List az} {f:FuncId} {ct:az},a2t l f=some ct->ct∈l/\ct.f=f
 | [],_,_,h=>by cases h
 | c::l,f,ct,h=>by
  unfold a2t at h
  cases hb:Nat.beq c.f f with
  | true=>
   rw[hb,fh] at h;injection h with h
   subst h;exact⟨tF ..,gU hb⟩
  | false=>rw[hb,q9] at h;obtain⟨h1,h2⟩:=aXy h;exact⟨qZ _ h1,h2⟩
theorem oB {Tb:World->Prop} (M:Mem Tb F B0 w0 β H w) {ok':Nat->Prop} (ho:∀i,Ok F w0 β H i->ok' i):∀{l l':List AV} {vs:List Value},a3f H l=some l'->(∀id g,l.any (AV.atz id)=true->y9 β H id g->ok' g)->VL (Ok F w0 β H) w β l vs->VL ok' w AM.dX l' vs
 | [],as',vs,h,_,hv=>by
  simp only[a3f,fK] at h;subst h
  cases vs with
  | nil=>trivial
  | cons=>exact hv
 | a::l,as',vs,h,hg,hv=>by
  cases vs with
  | nil=>exact hv.elim
  | cons v vs=>
   unfold a3f at h;split at h
   ·rename_i x y hx hy;injection h with h
    subst h;obtain⟨⟨c,hc,fj⟩,jv⟩:=hv;obtain⟨h1,h2⟩:=aZC M ho hx (λid g e=>hg id g (by simp[e])) hc;exact⟨⟨c,h1,by rw[h2];exact fj⟩,oB M ho hy (λid g e=>hg id g (by simp at e ⊢;exact Or.inr e)) jv⟩
   ·cases h
theorem sX (id:Nat):∀{l:List AV},l.any AV.owns=false->l.any (AV.atz id)=false
 | [],_=>rfl
 | a::l,h=>by simp only[List.any_cons,yZ] at h ⊢;exact⟨dp id h.1,sX id h.2⟩
theorem qz {ok:Nat->Prop} {c:Call} {f:FuncId} {args:List AV} (ho:o.op = .call c) (hx:∀x∈c.operands,aq ok w β (ev m x) (ρ x)) (h:callee m c=some (f,args)) :
  ∃vs,VL ok w β args vs/\(∀(P:Program) w',(execOp ρ o).run P w'=(callFunc f vs.toArray).run P w'):=by
 unfold callee at h
 split at h
 ·rename_i fo hf
  split at h
  ·rename_i g iE SU
   cases hl:iE.Yt with
   | false=>rw[hl] at h;cases h
   | true=>
    rw[hl,fh] at h
    injection h with h
    injection h with h1 h2
    subst h1;subst h2
    have pT:=hx fo (by simp[Call.operands,hf])
    rw[SU] at pT
    obtain⟨cs,⟨vs,rfl,hr⟩,hv⟩:=pT
    refine⟨c.args.toList.map ρ++vs,(VL.map λx pU=>hx x (by simp[Call.operands,hf];exact Or.inr (by simpa using pU))).append (VL.iE hl hr),λP w'=>?_⟩
    have e:(c.args.toList.map ρ++vs).toArray=c.args.map ρ++vs.toArray:=by apply tP;simp
    unfold execOp
    rw[e]
    simp[ho,resolve,hf,hv,pack,AV.row,Deferred.ofValue,invoke]
  ·rename_i g SU
   injection h with h
   injection h with h1 h2
   subst h1;subst h2
   have pT:=hx fo (by simp[Call.operands,hf])
   rw[SU] at pT
   obtain⟨cs,hr,hv⟩:=pT
   have hr:cs=[.func (.func g) #[] #[]]:=hr
   subst hr
   refine⟨c.args.toList.map ρ,VL.map λx pU=>hx x (by simp[Call.operands,hf];exact Or.inr (by simpa using pU)),λP w'=>?_⟩
   have e:(c.args.toList.map ρ).toArray=c.args.map ρ:=by apply tP;simp
   unfold execOp
   rw[e]
   simp[ho,resolve,hf,hv,pack,AV.row,Kd.row,Deferred.ofValue,invoke]
  ·cases h
 ·cases h
theorem Tq (hT:dI C.Tb) (hC:nW C) (M:Mem C.Tb F B0 w0 β H w) {c:Call} {v:AV} {bm g:Option Prop} (ho:o.op = .call c) (hx:∀x∈c.operands,aq (Ok F w0 β H) w β (ev m x) (ρ x)) (h:a4Y C m H c=some (bm,g,v)):Qt C.P F w0 w β H ρ o bm g v:=by
 unfold a4Y at h;split at h
 ·rename_i f args DO;obtain⟨vs,mB,ec⟩:=qz ho hx DO;split at h
  ·rename_i ct jL vX vY;obtain⟨DP,rfl⟩:=aXy vX;have ok:=hC.c ct DP;split at h
   ·rename_i g' r hc
    cases hb:(!r.owns&&(ct.fresh||(r.flat || !(args.any AV.owns)))) with
    | false=>rw[hb] at h;cases h
    | true=>
     rw[hb,fh] at h;injection h with h;injection h with h1 h;injection h with h2 h
     subst h1;subst h2;subst h;refine⟨trivial,λhg=>?_⟩;rw[aI,tE] at hb;obtain⟨kU,hb⟩:=hb;have hF:∃F1:Nat->Prop,VL F1 w AM.dX jL vs/\(args.any AV.owns=false->∀i,F1 i->Ok F w0 β H i):=by
      cases ha:args.any AV.owns with
      | false=>exact⟨Ok F w0 β H,oB M (λ_ h=>h) vY (λid g e=>by rw[sX id ha] at e;cases e) mB,λ_ _ h=>h⟩
      | true=>exact⟨λi=>Ok F w0 β H i\/OB β H i,oB M (λ_ h=>.inl h) vY (λ_ g _ h=>.inr h.ob) mB,λe=>by cases e⟩
     obtain⟨F1,fj,jv⟩:=hF;refine sS ((ec _ _).trans (ok.mu _ _)) ((ok.ok _ _ _ _ hc hg F1 w vs (M.tbw hT) fj).mono ?_);rintro e w' ⟨u, β',rfl,M',hu⟩;refine⟨u,rfl,M'.fr.ext,?_⟩;obtain⟨cs,h3,h4⟩:=hu;refine⟨cs,?_,h4⟩;have adB:∀id,r.atz id=true->β id=β' id:=λid e=>by rw[dp id kU] at e;cases e
     rcases hf:r.flat with _ | _
     ·refine h3.ak (Kp.aO (Ext.refl w')) (λi _ hi=>?_) adB;have adD:w.heap.size<=i->Ok F w0 β H i:=λhi=>⟨.inr (j3 M.fr.size hi),λhob=>by have:=(M.own i hob).2.1;omega⟩
      rcases hi.1 with ⟨jM,hi⟩ | hi
      ·rw[jM,hf] at hb;simp at hb;exact jv (by simpa using hb) i hi
      ·exact adD hi
     ·exact h3.flat hf
   ·cases h
  ·cases h
 ·cases h
def a1N:Op->Bool
 | .move _ | .pick _ _ _ | .fieldAddr _ _ _ | .field _ _ _ | .extract _ _ | .unOp _ _ _ | .binOp _ _ _ _ _ | .convert _ _ _ | .indexAddr _ _ _=>true
 | .call c=>(match c.callee with
  | .builtin .len=>true
  | _=>false)
 | _=>false
theorem Ik (M:Mem C.Tb F B0 w0 β H w) (hx:∀x∈o.op.operands,aq (Ok F w0 β H) w β (ev m x) (ρ x)) {v:AV} {bm g:Option Prop} (hp:a1N o.op=true) (h:a3g C m H o=some (bm,g,v)):Qu C.P F w0 w β H ρ o bm g v:=by
 unfold a3g at h
 cases ho:o.op with
 | move x=>rw[ho] at h hx;obtain⟨rfl,rfl,rfl⟩:=bY h;exact vS (.inl ho) (hx x (by simp[Op.operands]))
 | pick c a b=>
  rw[ho] at h hx;simp only at h;have hc:=hx c (by simp[Op.operands]);split at h
  ·rename_i p he;rw[he] at hc;exact DH ho hc (hx a (by simp[Op.operands])) (hx b (by simp[Op.operands])) h
  ·cases h
 | fieldAddr s x f=>rw[ho] at h hx;exact p9 ho (hx x (by simp[Op.operands])) h
 | field s x f=>rw[ho] at h hx;exact za ho (hx x (by simp[Op.operands])) h
 | indexAddr t x y=>rw[ho] at h hx;exact qa M ho (hx x (by simp[Op.operands])) (hx y (by simp[Op.operands])) h
 | extract x i=>
  rw[ho] at h hx;simp only at h;have hc:=hx x (by simp[Op.operands]);split at h
  ·rename_i rs he;rw[he] at hc;split at h
   ·rename_i u hn;obtain⟨rfl,rfl,rfl⟩:=bY h;exact tZ ho hc hn
   ·cases h
  ·cases h
 | unOp op t x=>rw[ho] at h hx;exact Tm ho (hx x (by simp[Op.operands])) h
 | binOp op t x y t'=>rw[ho] at h hx;exact MA ho (hx x (by simp[Op.operands])) (hx y (by simp[Op.operands])) h
 | convert s d x=>rw[ho] at h hx;exact DG ho (hx x (by simp[Op.operands])) h
 | call c=>
  rw[ho] at h hp hx;have hb:c.callee = .builtin .len:=by
   have hp:(match c.callee with | .builtin .len=>true | _=>false)=true:=hp;split at hp
   ·assumption
   ·cases hp
  simp only[hb] at h;unfold a52 at h;simp only[hb] at h;split at h
  ·rename_i t x ht ha;have hm:x∈c.args:=Array.mem_toList_iff.1 (by rw[ha];exact kI.2 rfl);exact DN M ho hb ht ha (hx x (by simp[Op.operands,Call.operands,hb,hm])) h
  ·cases h
 | _=>rw[ho] at hp;cases hp
theorem DQ (hT:dI C.Tb) (hC:nW C) (M:Mem C.Tb F B0 w0 β H w) (hx:∀x∈o.op.operands,aq (Ok F w0 β H) w β (ev m x) (ρ x)) {v:AV} {bm g:Option Prop} (h:a3g C m H o=some (bm,g,v)):Qt C.P F w0 w β H ρ o bm g v:=by
 unfold a3g at h
 cases ho:o.op with
 | move x=>rw[ho] at h hx;obtain⟨rfl,rfl,rfl⟩:=bY h;exact(vS (.inl ho) (hx x (by simp[Op.operands]))).qt
 | assign x=>rw[ho] at h hx;obtain⟨rfl,rfl,rfl⟩:=bY h;exact(vS (.inr ho) (hx x (by simp[Op.operands]))).qt
 | pick c a b=>
  rw[ho] at h hx;simp only at h;have hc:=hx c (by simp[Op.operands]);split at h
  ·rename_i p he;rw[he] at hc;exact(DH ho hc (hx a (by simp[Op.operands])) (hx b (by simp[Op.operands])) h).qt
  ·cases h
 | load t x=>rw[ho] at h hx;exact Tk M ho (hx x (by simp[Op.operands])) h
 | fieldAddr s x f=>rw[ho] at h hx;exact(p9 ho (hx x (by simp[Op.operands])) h).qt
 | field s x f=>rw[ho] at h hx;exact(za ho (hx x (by simp[Op.operands])) h).qt
 | indexAddr t x y=>rw[ho] at h hx;exact(qa M ho (hx x (by simp[Op.operands])) (hx y (by simp[Op.operands])) h).qt
 | extract x i=>
  rw[ho] at h hx;simp only at h;have hc:=hx x (by simp[Op.operands]);split at h
  ·rename_i rs he;rw[he] at hc;split at h
   ·rename_i u hn;obtain⟨rfl,rfl,rfl⟩:=bY h;exact(tZ ho hc hn).qt
   ·cases h
  ·cases h
 | unOp op t x=>rw[ho] at h hx;exact(Tm ho (hx x (by simp[Op.operands])) h).qt
 | binOp op t x y t'=>rw[ho] at h hx;exact(MA ho (hx x (by simp[Op.operands])) (hx y (by simp[Op.operands])) h).qt
 | convert s d x=>rw[ho] at h hx;exact(DG ho (hx x (by simp[Op.operands])) h).qt
 | build t ps=>rw[ho] at h hx;exact Ii ho (λp hp=>hx p.2 (by simp only[Op.operands];simp;exact⟨p.1,by simpa using hp⟩)) h
 | slice t x lo hi mx=>
  rw[ho] at h hx;simp only at h;split at h
  ·rename_i l h' m' h1 h2 h3;split at h
   ·rename_i r hr;injection h with h
    subst h;exact Ow ho (hx x (by simp[Op.operands])) (mz h1 λy hy=>hx y (by simp[Op.operands,hy])) (mz h2 λy hy=>hx y (by simp[Op.operands,hy])) (mz h3 λy hy=>hx y (by simp[Op.operands,hy])) hr
   ·exact Ij M ho (hx x (by simp[Op.operands])) (mz h1 λy hy=>hx y (by simp[Op.operands,hy])) (mz h2 λy hy=>hx y (by simp[Op.operands,hy])) (mz h3 λy hy=>hx y (by simp[Op.operands,hy])) h
  ·cases h
 | makeFunc fn first iE=>
  rw[ho] at h hx;simp only at h;split at h
  ·rename_i f hf;have e:first = #[]:=by apply tP;exact hf
   subst e;obtain⟨rfl,rfl,rfl⟩:=bY h;exact AR ho (λx pU=>hx x (by simp only[Op.operands];simp;simpa using pU))
  ·cases h
 | call c=>
  rw[ho] at h hx;simp only at h;have hx:∀x∈c.operands,aq (Ok F w0 β H) w β (ev m x) (ρ x):=hx;have Ts:∀x∈c.args.toList,aq (Ok F w0 β H) w β (ev m x) (ρ x):=λx pU=>hx x (by simp[Call.operands];exact Or.inr (by simpa using pU));split at h
  ·rename_i b hb;unfold a52 at h;split at h
   ·rename_i kP;split at h
    ·rename_i t x ht ha;exact Yw M ho kP ht ha (Ts x (by rw[ha];simp)) h
    ·cases h
   ·rename_i kP;split at h
    ·rename_i x y ha;exact Yx ho kP ha (Ts x (by rw[ha];simp)) (Ts y (by rw[ha];simp)) h
    ·cases h
   ·rename_i kP;split at h
    ·rename_i x y ha;exact aIv ho kP ha (Ts x (by rw[ha];simp)) (Ts y (by rw[ha];simp)) h
    ·cases h
   ·cases h
  ·exact Tq hT hC M ho hx h
 | _=>rw[ho] at h;cases h
end
def vZ (d:Nat) (m:Sl):Sl:=m.map λp=>(p.1,bif p.2.atz d then .no else p.2)
def aT (d:Nat) (H:Hp):Hp:=H.map λp=>(p.1,bif p.2.atz d then .dead else p.2)
theorem ze (d t:Nat):∀m:Sl,lk (vZ d m) t=bif (lk m t).atz d then .no else lk m t
 | []=>rfl
 | (k,v)::m=>by
  have ih:=ze d t m;simp only[vZ,Ag,lk] at ih ⊢
  cases hb:Nat.beq k t with
  | true=>rfl
  | false=>simpa using ih
theorem cr (d t:Nat):∀H:Hp,lkH (aT d H) t=(lkH H t).map λob=>bif ob.atz d then .dead else ob
 | []=>rfl
 | (k,v)::m=>by
  have ih:=cr d t m;simp only[aT,Ag,lkH] at ih ⊢
  cases hb:Nat.beq k t with
  | true=>rfl
  | false=>simpa using ih
theorem aF {d:Nat} {ob:Ob} {H:Hp}:lkH ((d,ob)::H) d=some ob:=by simp[lkH]
theorem aW {d t:Nat} {ob:Ob} {H:Hp} (h:t≠d):lkH ((d,ob)::H) t=lkH H t:=by
 have:Nat.beq d t=false:=by
  cases hb:Nat.beq d t with
  | false=>rfl
  | true=>exact absurd (gU hb).symm h
 simp[lkH,this]
section
variable {Tb:World->Prop} {F B0:Nat->Prop} {w0 w w':World} {β:Bm} {H:Hp}
theorem Mem.kp (M:Mem Tb F B0 w0 β H w) (br:w.heap.size<=w'.heap.size) (hs:∀i,i<w.heap.size->¬OB β H i->w'.heap[i]? = w.heap[i]?):Kp (Ok F w0 β H) w w':=by
 refine⟨br,λi hi h=>hs i hi λhob=>?_⟩;rcases h with h | ⟨j,v,h1,h2⟩
 ·exact h.2 hob
 ·have:=(M.own i hob).2.2 j v h1;rw[h2] at this;cases this
def cW (β:Bm) (d:Nat) (b:Option (Nat×Nat×Nat)):Bm:=λid r=>if id=d then (if r=0 then b else none) else β id r
theorem cC {d:Nat} {b:Option (Nat×Nat×Nat)}:cW β d b d 0=b:=by simp[cW]
theorem fe {d id:Nat} {b:Option (Nat×Nat×Nat)} (h:id≠d):cW β d b id=β id:=by funext r;simp[cW,h]
theorem v8 {d:Nat} {av:AV} (h:av.atz d=false) {id:Nat} (hu:av.atz id=true):id≠d:=λe=>by rw[e,h] at hu;cases hu
theorem rF {d:Nat} {b:Option (Nat×Nat×Nat)} {ob:Ob} (jX:ob.bZ=1) {i:Nat} (h:OB (cW β d b) ((d,ob)::aT d H) i):(∃x,b=some (i,x))\/∃id r C ob,id≠d/\lkH H id=some ob/\r<ob.bZ/\β id r=some (i,C):=by
 obtain⟨id,r,C,ob',h1,h2,h3⟩:=h;by_cases e:id=d
 ·subst e;rw[aF] at h1;injection h1 with h1
  subst h1;have hr:r=0:=by omega
  subst hr;rw[cC] at h3;exact .inl ⟨C,h3⟩
 ·rw[aW e,cr] at h1;rw[fe e] at h3;obtain⟨aQ,h4,h5⟩:=ja.1 h1
  cases hu:aQ.atz d with
  | true=>rw[hu] at h5;subst h5;exact absurd h2 (nc _)
  | false=>rw[hu] at h5;subst h5;exact .inr ⟨id,r,C,aQ,e,h4,h2,h3⟩
theorem Mem.put (hT:dI Tb) (M:Mem Tb F B0 w0 β H w) {d:Nat} {b:Option (Nat×Nat×Nat)} {ob:Ob} (jX:ob.bZ=1) (jM:fm B0 w0 w') (br:w.heap.size<=w'.heap.size)
  (hb:∀g x,b=some (g,x)->(w.heap.size<=g\/∃eH x,lkH H d=some eH/\0<eH.bZ/\β d 0=some (g,x))/\g<w'.heap.size/\∀j v,w'.cell? ⟨g,j,none⟩=some v->bf v=true)
  (hs:∀i,i<w.heap.size->(∀x,b≠some (i,x))->w'.heap[i]? = w.heap[i]?)
  (hob:Kp (Ok F w0 β H) w w'->(∀i,i<w.heap.size->Ok F w0 β H i->Ok F w0 (cW β d b) ((d,ob)::aT d H) i)->cI (Ok F w0 (cW β d b) ((d,ob)::aT d H)) w' (cW β d b) d ob) :
  Mem Tb F B0 w0 (cW β d b) ((d,ob)::aT d H) w'/\Kp (Ok F w0 β H) w w'/\(∀i,i<w.heap.size->Ok F w0 β H i->Ok F w0 (cW β d b) ((d,ob)::aT d H) i):=by
 have MC:∀{id r g C ob},lkH H id=some ob->r<ob.bZ->β id r=some (g,C)->g<w.heap.size:=λh1 h2 h3=>(M.own _ ⟨_,_,_,_,h1,h2,h3⟩).2.1
 have hk:Kp (Ok F w0 β H) w w':=M.kp br λi hi hn=>hs i hi λx e=>by
  rcases(hb i x e).1 with h | ⟨eH,x',h1,h2,h3⟩
  ·omega
  ·exact hn ⟨d,0,x',eH,h1,h2,h3⟩
 have ho:∀i,i<w.heap.size->Ok F w0 β H i->Ok F w0 (cW β d b) ((d,ob)::aT d H) i:=λi hi h=>⟨h.1,λadE=>by
  rcases rF jX adE with ⟨x,e⟩ | ⟨id,r,C,aQ,_,h1,h2,h3⟩
  ·rcases(hb i x e).1 with h' | ⟨eH,x',h1,h2,h3⟩
   ·omega
   ·exact h.2 ⟨d,0,x',eH,h1,h2,h3⟩
  ·exact h.2 ⟨id,r,C,aQ,h1,h2,h3⟩⟩
 have apart:∀{id r g C aQ},id≠d->lkH H id=some aQ->r<aQ.bZ->β id r=some (g,C)->∀x,b≠some (g,x):=fun {id r g C aQ} ay h1 h2 h3 x e=>by
  rcases(hb g x e).1 with h' | ⟨eH,x',h4,h5,h6⟩
  ·have:=MC h1 h2 h3;omega
  ·exact ay (M.inj _ _ _ _ _ _ _ _ _ h1 h2 h3 h4 h5 h6).1
 refine⟨⟨jM,λg hg=>?_,?_,λid aQ h1=>?_,M.tb⟩,hk,ho⟩
 ·rcases rF jX hg with ⟨x,e⟩ | ⟨id,r,C,aQ,ay,h1,h2,h3⟩
  ·obtain⟨h4,h5,h6⟩:=hb g x e
   refine⟨?_,h5,h6⟩
   rcases h4 with h4 | ⟨eH,x',h1,h2,h3⟩
   ·exact .inr (j3 M.fr.size h4)
   ·exact(M.own g ⟨d,0,x',eH,h1,h2,h3⟩).1
  ·obtain⟨h4,h5,h6⟩:=M.own g ⟨id,r,C,aQ,h1,h2,h3⟩
   exact⟨h4,dz h5 br,λj v hv=>h6 j v ((World.cell?_of_block (a:=⟨g,j,none⟩) (hs g h5 (apart ay h1 h2 h3))).symm.trans hv)⟩
 ·intro id r aR r' aQ bC g x x' h1 h2 h3 h4 h5 h6
  have split:∀{id r g:Nat} {x:Nat×Nat} {aQ:Ob},lkH ((d,ob)::aT d H) id=some aQ->r<aQ.bZ->cW β d b id r=some (g,x)->(id=d/\r=0/\b=some (g,x))\/(id≠d/\∃bC,lkH H id=some bC/\r<bC.bZ/\β id r=some (g,x)):=by
   intro id r g x aQ h1 h2 h3;by_cases e:id=d
   ·subst e;rw[aF] at h1;injection h1 with h1
    subst h1;have hr:r=0:=by omega
    subst hr;rw[cC] at h3;exact .inl ⟨rfl,rfl,h3⟩
   ·rw[aW e,cr] at h1;rw[fe e] at h3;obtain⟨bC,h4,h5⟩:=ja.1 h1
    cases hu:bC.atz d with
    | true=>rw[hu] at h5;subst h5;exact absurd h2 (nc _)
    | false=>rw[hu] at h5;subst h5;exact .inr ⟨e,bC,h4,h2,h3⟩
  rcases split h1 h2 h3 with ⟨rfl,rfl,e1⟩ | ⟨n1,o1,a1,a2,a3⟩
  ·rcases split h4 h5 h6 with ⟨rfl,rfl,e2⟩ | ⟨n2,o2,c1,c2,c3⟩
   ·exact⟨rfl,rfl⟩
   ·exact absurd e1 (apart n2 c1 c2 c3 x)
  ·rcases split h4 h5 h6 with ⟨rfl,rfl,e2⟩ | ⟨n2,o2,c1,c2,c3⟩
   ·exact absurd e2 (apart n1 a1 a2 a3 x')
   ·exact M.inj _ _ _ _ _ _ _ _ _ a1 a2 a3 c1 c2 c3
 ·by_cases e:id=d
  ·subst e
   rw[aF] at h1
   injection h1 with h1
   subst h1
   exact hob hk ho
  ·rw[aW e,cr] at h1
   obtain⟨bC,h4,h5⟩:=ja.1 h1
   cases hu:bC.atz d with
   | true=>rw[hu] at h5;subst h5;trivial
   | false=>
    rw[hu] at h5
    subst h5
    refine(M.dD id _ h4).ak hk ho (fe e) (λd' nX=>fe λe'=>by rw[e'] at nX;rw[hu] at nX;cases nX) λr g x hr bN=>hs g (MC h4 hr bN) (apart e h4 hr bN)
theorem Mem.upd (hT:dI Tb) (M:Mem Tb F B0 w0 β H w) {d:Nat} {ob ob':Ob} (hd:lkH H d=some ob) (jX:ob'.bZ=ob.bZ) (jM:fm B0 w0 w') (br:w'.heap.size=w.heap.size)
  (hs:∀i,i<w.heap.size->(∀r x,r<ob.bZ->β d r≠some (i,x))->w'.heap[i]? = w.heap[i]?)
  (cT:∀r g x,r<ob.bZ->β d r=some (g,x)->∀j v,w'.cell? ⟨g,j,none⟩=some v->bf v=true)
  (hob:Kp (Ok F w0 β H) w w'->cI (Ok F w0 β ((d,ob')::H)) w' β d ob') :
  Mem Tb F B0 w0 β ((d,ob')::H) w'/\Kp (Ok F w0 β H) w w'/\(∀i,Ok F w0 β H i->Ok F w0 β ((d,ob')::H) i):=by
 have hk:Kp (Ok F w0 β H) w w':=M.kp (by omega) λi hi hn=>hs i hi λr x hr e=>hn ⟨d,r,x,ob,hd,hr,e⟩
 have iT:∀{i},OB β ((d,ob')::H) i->OB β H i:=by
  rintro i ⟨id,r,C,aQ,h1,h2,h3⟩;by_cases e:id=d
  ·subst e;rw[aF] at h1;injection h1 with h1
   subst h1;exact⟨id,r,C,ob,hd,by omega,h3⟩
  ·rw[aW e] at h1;exact⟨id,r,C,aQ,h1,h2,h3⟩
 have ho:∀i,Ok F w0 β H i->Ok F w0 β ((d,ob')::H) i:=λi h=>⟨h.1,λh'=>h.2 (iT h')⟩
 have get:∀{id aQ},lkH ((d,ob')::H) id=some aQ->∃bC,lkH H id=some bC/\aQ.bZ=bC.bZ:=by
  intro id aQ h1;by_cases e:id=d
  ·subst e;rw[aF] at h1;injection h1 with h1
   subst h1;exact⟨ob,hd,jX⟩
  ·rw[aW e] at h1;exact⟨aQ,h1,rfl⟩
 refine⟨⟨jM,λg hg=>?_,λid r aR r' aQ bC g x x' h1 h2 h3 h4 h5 h6=>?_,λid aQ h1=>?_,M.tb⟩,hk,ho⟩
 ·have fc:=iT hg
  obtain⟨h1,h2,h3⟩:=M.own g fc
  refine⟨h1,by omega,λj v hv=>?_⟩
  by_cases hx:∃r x,r<ob.bZ/\β d r=some (g,x)
  ·obtain⟨r,x,hr,hx⟩:=hx
   exact cT r g x hr hx j v hv
  ·exact h3 j v ((World.cell?_of_block (a:=⟨g,j,none⟩) (hs g h2 λr x hr e=>hx ⟨r,x,hr,e⟩)).symm.trans hv)
 ·obtain⟨o1,a1,a2⟩:=get h1
  obtain⟨o2,c1,c2⟩:=get h4
  exact M.inj _ _ _ _ _ _ _ _ _ a1 (by omega) h3 c1 (by omega) h6
 ·by_cases e:id=d
  ·subst e
   rw[aF] at h1
   injection h1 with h1
   subst h1
   exact hob hk
  ·rw[aW e] at h1
   refine(M.dD id _ h1).ak hk (λi _ h=>ho i h) rfl (λ_ _=>rfl) λr g x hr bN=>?_
   exact hs g (M.own g ⟨id,r,x,aQ,h1,hr,bN⟩).2.1 λr' x' uG e'=>e (M.inj _ _ _ _ _ _ _ _ _ h1 hr bN hd uG e').1
end
structure bo (C:bO) (F B0:Nat->Prop) (w0:World) (n:Nat) (β:Bm) (s:St) (a:Act) (w:World):Prop where
 mem:Mem C.Tb F B0 w0 β s.H w
 size:a.tmps.size=n
 defs:a.defers=[]
 slot:∀t,aq (Ok F w0 β s.H) w β (lk s.m t) (a.tmps.getD t undef)
def azw (m:Sl):Option Tmp->AV->Sl
 | none,_=>m
 | some d,v=>(d,v)::m
theorem uc {ok:Nat->Prop} {w:World} {β:Bm} (v:Value):aq ok w β (a3c v) v:=by
 unfold a3c;split
 ·exact .mkInt _ _
 ·exact .dN _
 ·exact .mkStr _
 ·exact⟨_,rfl,rfl⟩
 ·exact .no _ _ _ _
theorem ew {ok:Nat->Prop} {w:World} {β:Bm} {m:Sl} {a:Act} (h:∀t,aq ok w β (lk m t) (a.tmps.getD t undef)) (x:Operand):aq ok w β (ev m x) (a.eval x):=by
 cases x with
 | tmp t=>exact h t
 | const v=>exact uc v
 | func f=>exact⟨_,⟨[],rfl,rfl⟩,rfl⟩
 | global g=>exact .no _ _ _ _
theorem dE {ok:Nat->Prop} {w:World} {β:Bm} {m:Sl} {a:Act} {n:Nat} (h:∀t,aq ok w β (lk m t) (a.tmps.getD t undef)) (br:a.tmps.size=n) {dst:Option Tmp} (hd:∀d,dst=some d->d<n) {v:AV} {u:Value} (hv:aq ok w β v u) (t:Nat):aq ok w β (lk (azw m dst v) t) ((a.put dst u).tmps.getD t undef):=by
 cases dst with
 | none=>exact h t
 | some d=>
  have hd:=hd d rfl;simp only[azw,lk,Act.put];by_cases e:d=t
  ·subst e;rw[yj,fh];have:(a.tmps.setIfInBounds d u).getD d undef=u:=by simp[br,hd]
   rw[this];exact hv
  ·have e':Nat.beq d t=false:=by
    cases hb:Nat.beq d t with
    | false=>rfl
    | true=>exact absurd (gU hb) e
   rw[e',q9];have:(a.tmps.setIfInBounds d u).getD t undef=a.tmps.getD t undef:=by simp only[kx,xZ e]
   rw[this];exact h t
theorem lF {ok ok':Nat->Prop} {w w':World} {β:Bm} {m:Sl} {a:Act} (h:∀t,aq ok w β (lk m t) (a.tmps.getD t undef)) (k:Kp ok w w') (ho:∀i,i<w.heap.size->ok i->ok' i) (t:Nat):aq ok' w' β (lk m t) (a.tmps.getD t undef):=(h t).ak k ho λ_ _=>rfl
theorem gF {ok ok':Nat->Prop} {w w':World} {β β':Bm} {m:Sl} {a:Act} {d:Nat} (h:∀t,aq ok w β (lk m t) (a.tmps.getD t undef)) (k:Kp ok w w') (ho:∀i,i<w.heap.size->ok i->ok' i) (bN:∀id,id≠d->β' id=β id) (t:Nat):aq ok' w' β' (lk (vZ d m) t) (a.tmps.getD t undef):=by
 rw[ze]
 cases hu:(lk m t).atz d with
 | true=>exact .no _ _ _ _
 | false=>exact(h t).ak k ho λid hid=>bN id (v8 hu hid)
def AV.big:AV->Bool
 | .k K _=>K.big
 | .cons a b=>a.big&&b.big
 | .agg fs=>fs.big
 | .eX _ | .ud | .no=>false
 | _=>true
abbrev SR:=Option (Option Prop×St)
def jB (d:Nat) (dst:Option Tmp) (ob:Ob) (v:AV) (s:St):St:=⟨azw (vZ d s.m) dst v,(d,ob)::aT d s.H⟩
def sY (v:AV):Bool:=v.sto&&(v.big&&(v.row||Nat.beq v.wid 1))
def a4m (C:bO) (s:St) (dst:Option Tmp) (t:TypeId):SR:=match dst,a4f C.P C.T 5 t with
 | some d,some z=>bif a4g C.P t z&&(z.sto&&z.big) && !z.atz d then some (none,jB d dst (.box t z) (.pt d 0 z.wid 0 0) s) else none
 | _,_=>none
def a55 (s:St) (dst:Option Tmp) (t:TypeId) (v:AV):SR:=match dst with
 | some d=>bif sY v && !v.atz d then some (none,jB d dst (.box t v) (.pt d 0 v.wid 0 0) s) else none
 | none=>none
def a5G (C:bO) (t:TypeId):Option (TypeId×Kd):=match C.P.underlying t with
 | some (.slice e)=>match C.P.info? e,DB C.P C.T 5 e with
  | some inf,some K=>match inf.zero with
   | some z=>bif Nat.beq inf.size K.sz&&(Nat.ble inf.bytes 128&&(zK K z.cells.toList&&(K.big&&Nat.blt 0 K.sz))) then some (e,K) else none
   | none=>none
  | _,_=>none
 | _=>none
def nj (C:bO) (t:TypeId):Option (TypeId×Kd):=match C.P.underlying t with
 | some (.slice e)=>match C.P.info? e,DB C.P C.T 5 e with
  | some inf,some K=>match inf.zero with
   | some z=>bif Nat.beq inf.size K.sz&&(Nat.ble inf.bytes 128&&(Nat.beq z.cells.toList.length K.sz&&(z.cells.toList.all bf&&(K.big&&Nat.blt 0 K.sz)))) then some (e,K) else none
   | none=>none
  | _,_=>none
 | _=>none
def AS:Kd->Kd
 | .rq=>.oq
 | K=>K
def AT (C:bO) (t:TypeId):Option (TypeId×Kd):=match C.P.underlying t with
 | some (.slice e)=>match C.P.info? e,DB C.P C.T 5 e with
  | some inf,some K=>match inf.zero with
   | some z=>bif Nat.beq inf.size (AS K).sz&&(Nat.ble inf.bytes 128&&(zK (AS K) z.cells.toList&&((AS K).big&&Nat.blt 0 (AS K).sz))) then some (e,AS K) else none
   | none=>none
  | _,_=>none
 | _=>none
def a4Z (C:bO) (s:St) (dst:Option Tmp) (t:TypeId) (l c:AV):SR:=match dst,AT C t,l,c with
 | some d,some (e,K),.k (.int _) l,.k (.int _) c=>some (some (0<=l/\l<=c/\c<=1099511627776),jB d dst (.arr e K (List.replicate l.toNat K.iC)) (.own d 0 K.sz) s)
 | _,_,_,_=>none
def a2y (K:Kd) (m:Sl):Nat->List (Nat×Operand)->Option (List K.T)
 | _,[]=>some []
 | n,(i,x)::r=>bif Nat.beq i n then (match asK K (ev m x),a2y K m (n+1) r with | some y,some ys=>some (y::ys) | _,_=>none) else none
def a3h (C:bO) (s:St) (dst:Option Tmp) (t:TypeId) (len:Nat) (parts:Array (Nat×Operand)):SR:=match dst,nj C t with
 | some d,some (e,K)=>match a2y K s.m 0 parts.toList with
  | some xs=>bif Nat.beq parts.toList.length len&&Nat.ble (len*K.sz) 16777216 then some (none,jB d dst (.arr e K xs) (.own d 0 K.sz) s) else none
  | none=>none
 | _,_=>none
section
variable {P:Program} {ok:Nat->Prop} {w:World} {β:Bm}
theorem AU {k:IntKind} {x:Int} (h:(Kd.int k).big=true):bf (.int k x)=true:=by cases k<;>first | rfl | cases h
theorem bj.kV:∀{K:Kd} {x:K.T} {cs:List Value},K.big=true->bj ok w K x cs->∀u∈cs,bf u=true
 | .int k,_,_,hb,h=>by cases h;intro u hu;simp only[kI] at hu;subst hu;exact AU hb
 | .bool,_,_,_,h=>by cases h;intro u hu;simp only[kI] at hu;subst hu;rfl
 | .str,_,_,_,h=>by cases h;intro u hu;simp only[kI] at hu;subst hu;rfl
 | .nat,_,_,_,h=>by cases h;intro u hu;simp only[iD,tQ,wc,or_false] at hu;rcases hu with rfl | rfl<;>rfl
 | .z,_,_,_,h=>by cases h;intro u hu;simp only[zC,iD,tQ,wc,or_false] at hu;rcases hu with rfl | rfl | rfl<;>rfl
 | .q,_,_,_,h=>by cases h;intro u hu;simp only[qC,zC,iD,Ce,Aj,tQ,wc,or_false] at hu;rcases hu with rfl | rfl | rfl | rfl | rfl<;>rfl
 | .rn,_,_,_,h=>by obtain⟨v,rfl,h1⟩:=h;obtain⟨A,c,rfl⟩:=h1.form;intro u hu;simp only[kI] at hu;subst hu;rfl
 | .ri,_,_,_,h=>by obtain⟨v,rfl,h1⟩:=h;obtain⟨A,c,rfl⟩:=h1.form;intro u hu;simp only[tQ,wc,or_false] at hu;rcases hu with rfl | rfl<;>rfl
 | .rq,_,_,_,h=>by obtain⟨u,v,rfl,h1,h2⟩:=h;obtain⟨A,c,rfl⟩:=h1.form;obtain⟨A',c',rfl⟩:=h2.form;intro u hu;simp only[tQ,wc,or_false] at hu;rcases hu with rfl | rfl | rfl<;>rfl
 | .un,_,_,_,h=>by cases h;intro u hu;cases hu
 | .iB,_,_,_,h=>by cases h;intro u hu;simp only[kI] at hu;subst hu;rfl
 | .oq,_,_,_,h=>by
  rcases h with ⟨_,rfl⟩ | ⟨q,u,v,_,rfl,h1,h2⟩
  ·intro u hu;simp only[tQ,wc,or_false] at hu;rcases hu with rfl | rfl | rfl<;>rfl
  ·obtain⟨A,c,rfl⟩:=h1.form;obtain⟨A',c',rfl⟩:=h2.form;intro u hu;simp only[tQ,wc,or_false] at hu;rcases hu with rfl | rfl | rfl<;>rfl
 | .pr a b,_,_,hb,h=>by
  simp only[Kd.big,aI] at hb;obtain⟨c,d,rfl,h1,h2⟩:=h;intro u hu;rcases x9.1 hu with hu | hu
  ·exact h1.kV hb.1 u hu
  ·exact h2.kV hb.2 u hu
 | .list _,_,_,_,h=>by obtain⟨A,c,rfl,_⟩:=h;intro u hu;simp only[kI] at hu;subst hu;rfl
theorem we (b:Option (Nat×Nat×Nat)):bf (slV b)=true:=by cases b<;>rfl
theorem Rel.kV:∀{av:AV} {cs:List Value},av.big=true->Rel ok w β av false cs->∀u∈cs,bf u=true
 | .k K x,_,hb,h=>bj.kV (K:=K) hb h
 | .dv,_,_,h=>by have h:_=[_]:=h;rw[h];intro u hu;simp only[kI] at hu;subst hu;rfl
 | .own id r sz,_,_,h=>by have h:_=[slV (β id r)]:=h;rw[h];intro u hu;simp only[kI] at hu;subst hu;exact we _
 | .dT id r sz off len,_,_,h=>by
  unfold Rel at h;rcases h with ⟨_,A,c,h⟩ | ⟨g,C,n,_,_,h⟩
  ·rw[h];intro u hu;simp only[kI] at hu;subst hu;rfl
  ·rw[h];intro u hu;simp only[kI] at hu;subst hu;rfl
 | .pt ..,_,_,h=>by obtain⟨_,_,_,_,rfl⟩:=h;intro u hu;simp only[kI] at hu;subst hu;rfl
 | .pk ..,_,_,h=>by obtain⟨_,_,_,rfl,_⟩:=h;intro u hu;simp only[kI] at hu;subst hu;rfl
 | .cp K xs,_,_,h=>bj.kV (K:=.list K) rfl h.2
 | .fn ..,_,_,h=>by obtain⟨_,rfl,_⟩:=h;intro u hu;simp only[kI] at hu;subst hu;rfl
 | .nil,_,_,h=>by have h:_=[]:=h;rw[h];intro u hu;cases hu
 | .cons a b,_,hs,h=>by
  simp only[AV.big,aI] at hs;obtain⟨c,d,h1,h2,rfl⟩:=h;intro u hu;rcases x9.1 (show u∈c++d from hu) with hu | hu
  ·exact Rel.kV hs.1 h1 u hu
  ·exact Rel.kV hs.2 h2 u hu
 | .agg fs,_,hs,h=>Rel.kV (av:=fs) hs h
theorem rG:∀{K:Kd} {v:AV} {x:K.T} {cs:List Value},asK K v=some x->Rel ok w β v false cs->bj ok w K x cs:=by
 have gen:∀{K K':Kd} {y:K'.T} {x:K.T} {cs:List Value},(if h:K'=K then some (h ▸ y) else none)=some x->bj ok w K' y cs->bj ok w K x cs:=by
  intro K K' y x cs h hr;split at h
  ·rename_i e;subst e;injection h with h
   subst h;exact hr
  ·cases h
 intro K;induction K with
 | list e ih=>
  intro v x cs h hr;unfold asK at h;split at h
  ·exact gen h hr
  ·rename_i K' y;split at h
   ·rename_i e';subst e';injection h with h
    subst h;exact hr.2
   ·cases h
  ·injection h with h;subst h;have hr:cs=[.slice none 0 0]:=hr;exact⟨none,0,hr,bX _,ia _,λay=>absurd rfl ay⟩
  ·cases h
 | pr a b qu qw=>
  intro v x cs h hr;unfold asK at h;split at h
  ·exact gen h hr
  ·rename_i f g;split at h
   ·rename_i x' y' h1 h2;injection h with h
    subst h;obtain⟨c,d,h3,h4,rfl⟩:=(hr:Rel ok w β (.cons f g) false cs)
    exact⟨c,d,rfl,qu h1 h3,qw h2 (show Rel ok w β (.agg g) false d from h4)⟩
   ·cases h
  ·cases h
 | un=>
  intro v x cs h hr;unfold asK at h;split at h
  ·exact gen h hr
  ·exact hr
  ·cases h
 | oq=>
  intro v x cs h hr;unfold asK at h;split at h
  ·split at h
   ·rename_i e;subst e;injection h with h
    subst h;exact hr
   ·split at h
    ·rename_i e;subst e;injection h with h
     subst h;obtain⟨u,v,h1,h2,h3⟩:=hr;exact .inr ⟨_,u,v,rfl,h1,h2,h3⟩
    ·cases h
  ·cases h
 | _=>
  intro v x cs h hr;unfold asK at h;split at h
  ·exact gen h hr
  ·cases h
end
section
variable {C:bO} {F B0:Nat->Prop} {w0 w:World} {β:Bm} {s:St} {a:Act} {n:Nat} {o:Oper}
abbrev pV (C:bO) (F B0:Nat->Prop) (w0 w:World) (n:Nat) (a:Act) (o:Oper) (s':St):Prop:=Stp C.P a.eval o w λu w'=>∃β',bo C F B0 w0 n β' s' (a.put o.dst u) w'
abbrev oC (C:bO) (F B0:Nat->Prop) (w0 w:World) (n:Nat) (a:Act) (o:Oper) (s':St):Prop:=Stp C.P a.eval o w λu w'=>(∃β',bo C F B0 w0 n β' s' (a.put o.dst u) w')/\w'.heap.size=w.heap.size+1
theorem oC.st {s':St} (h:oC C F B0 w0 w n a o s'):pV C F B0 w0 w n a o s':=Stp.mono h λ_ _ h=>h.1
theorem gG {w:World} {o:Obj}:(w.alloc o).heap.size=w.heap.size+1:=by show(w.heap.push o).size=_;simp
theorem dF (a:Act) (d:Option Tmp) (u:Value):(a.put d u).tmps.size=a.tmps.size:=by cases d<;>simp[Act.put]
theorem cP (a:Act) (d:Option Tmp) (u:Value):(a.put d u).defers=a.defers:=by cases d<;>rfl
theorem Ox (hT:dI C.Tb) (S:bo C F B0 w0 n β s a w) (hd:∀d,o.dst=some d->d<n) {bm g:Option Prop} {v:AV} (h:Qt C.P F w0 w β s.H a.eval o bm g v):bt bm/\(bt g->pV C F B0 w0 w n a o ⟨azw s.m o.dst v,s.H⟩):=
 ⟨h.1,λhg=>(h.2 hg).mono λu w' hu=>⟨β,S.mem.ext hT hu.1,by rw[dF];exact S.size,by rw[cP];exact S.defs,
  dE (lF S.slot (Kp.aO hu.1) λ_ _ h=>h) S.size hd hu.2⟩⟩
theorem rH (hT:dI C.Tb) (S:bo C F B0 w0 n β s a w) (hd:∀d,o.dst=some d->d<n) {d g Cp len:Nat} {ob:Ob} {v:AV} {u:Value} {w':World} (jX:ob.bZ=1) (e:Ext w w') (hg:w.heap.size<=g) (aU:g<w'.heap.size) (cT:∀j v,w'.cell? ⟨g,j,none⟩=some v->bf v=true)
  (hob:∀ok',(∀i,i<w.heap.size->Ok F w0 β s.H i->ok' i)->cI ok' w' (cW β d (some (g,Cp,len))) d ob)
  (hv:∀ok',aq ok' w' (cW β d (some (g,Cp,len))) v u):bo C F B0 w0 n (cW β d (some (g,Cp,len))) (jB d o.dst ob v s) (a.put o.dst u) w':=by
 obtain⟨M',hk,ho⟩:=S.mem.put hT (d:=d) (b:=some (g,Cp,len)) (ob:=ob) jX (S.mem.fr.trans (.aO e)) e.size
  (λg' x hx=>by injection hx with hx;injection hx with hx _;subst hx;exact⟨.inl hg,aU,cT⟩) (λi hi _=>e.block i hi) λ_ ho=>hob _ ho
 refine⟨M',by rw[dF];exact S.size,by rw[cP];exact S.defs,dE (gF S.slot hk ho λid ay=>fe ay) S.size hd (hv _)⟩
theorem gj {w:World} {t:TypeId} {cs:List Value} (hb:∀v∈cs,bf v=true) {o:Obj} (ho:o = .cells cs.toArray t):∀j v,(w.alloc o).cell? ⟨w.heap.size,j,none⟩=some v->bf v=true:=by subst ho;intro j v hv;rw[(ar.new w t cs).cell] at hv;exact hb v (uy hv)
theorem jC {w:World} {o:Obj}:w.heap.size<(w.alloc o).heap.size:=by show w.heap.size<(w.heap.push o).size;simp
theorem MD (hT:dI C.Tb) (S:bo C F B0 w0 n β s a w) (hd:∀d,o.dst=some d->d<n) {d:Nat} {t:TypeId} {v:AV} {cs:List Value} (hr:Rel (Ok F w0 β s.H) w β v false cs) (hb:v.big=true) (hu:v.atz d=false) {ob:Obj} (hob:ob = .cells cs.toArray t) :
  ∃β',bo C F B0 w0 n β' (jB d o.dst (.box t v) (.pt d 0 v.wid 0 0) s) (a.put o.dst (.pointer (some ⟨w.heap.size,0,none⟩))) (w.alloc ob):=by
 have e:Ext w (w.alloc ob):=(Ext.refl w).alloc ob
 refine⟨cW β d (some (w.heap.size,0,0)),rH hT S hd (ob:=.box t v) rfl e (bX _) jC (gj (hr.kV hb) hob) (λok' ho=>⟨w.heap.size,0,0,cs,cC,by rw[hob];exact ar.new w t cs,hr.ak (Kp.aO e) ho λid hid=>fe (v8 hu hid)⟩) λok'=>?_⟩
 exact⟨[.pointer (some ⟨w.heap.size,0*v.wid+0,none⟩)],⟨_,_,_,cC,rfl⟩,by simp[pack,AV.row]⟩
theorem zf (hT:dI C.Tb) (S:bo C F B0 w0 n β s a w) (hd:∀d,o.dst=some d->d<n) {t:TypeId} {g:Option Prop} {s':St} (ho:o.op = .alloc t) (h:a4m C s o.dst t=some (g,s')):bt g->oC C F B0 w0 w n a o s':=by
 intro _;unfold a4m at h;split at h
 ·rename_i d z ib hz
  cases hb:(a4g C.P t z&&(z.sto&&z.big) && !z.atz d) with
  | false=>rw[hb] at h;cases h
  | true=>
   rw[hb,fh] at h;injection h with h
   injection h with _ h;subst h;simp only[aI,tE] at hb;obtain⟨⟨h1,h2,h3⟩,h4⟩:=hb;unfold a4g at h1;split at h1
   ·rename_i inf hi;split at h1
    ·rename_i zv hzv;obtain⟨β',S'⟩:=MD hT S hd (t:=t) (rC h1) h3 h4 (ob:=.cells zv.cells t) (by rw[yr]);refine cO (w':=w.alloc (.cells zv.cells t)) (v:=.pointer (some ⟨w.heap.size,0,none⟩)) ?_ ⟨⟨β',S'⟩,gG⟩;unfold execOp;simp[ho,Instr.alloc,zeroValue,typeInfo,hi,hzv,newVar,newRow]
    ·cases h1
   ·cases h1
 ·cases h
theorem ME (hT:dI C.Tb) (S:bo C F B0 w0 n β s a w) (hd:∀d,o.dst=some d->d<n) {t:TypeId} {x:Operand} {g:Option Prop} {s':St} (ho:o.op = .box t x) (h:a55 s o.dst t (ev s.m x)=some (g,s')):bt g->oC C F B0 w0 w n a o s':=by
 intro _;unfold a55 at h;split at h
 ·rename_i d ib
  cases hb:(sY (ev s.m x) && !(ev s.m x).atz d) with
  | false=>rw[hb] at h;cases h
  | true=>
   rw[hb,fh] at h;injection h with h
   injection h with _ h;subst h;simp only[sY,aI,tE,xP,pj] at hb;obtain⟨⟨h1,h2,h3⟩,h4⟩:=hb;obtain⟨cs,hr,hv⟩:=ew S.slot x;have hc:=aWk h1 hr h3;obtain⟨β',S'⟩:=MD hT S hd (t:=t) hr h2 h4 (ob:=.cells (a.eval x).cells t) (by rw[hv,show(pack (ev s.m x).row cs).cells=cs.toArray from tP (by rw[hc])]);refine cO (w':=w.alloc (.cells (a.eval x).cells t)) (v:=.pointer (some ⟨w.heap.size,0,none⟩)) ?_ ⟨⟨β',S'⟩,gG⟩;unfold execOp;simp[ho,Instr.box,newVar,newRow]
 ·cases h
end
theorem DR {sz:Nat}:∀{css:List (List Value)} {k:Nat} {c:List Value} {i:Nat},(∀c∈css,c.length=sz)->css[k]? = some c->i<sz->css.flatten[k*sz+i]? = c[i]?
 | [],_,_,_,_,h,_=>by simp at h
 | d::css,0,c,i,hs,h,hi=>by simp only[ye,fK] at h;subst h;rw[xY,kJ,Cs,iR (by rw[hs d (tF ..)];exact hi)]
 | d::css,k+1,c,i,hs,h,hi=>by have hd:=hs d (tF ..);rw[Cs,pq (by rw[hd,nP,qU];omega),hd];have:=DR (k:=k) (λc hc=>hs c (qZ _ hc)) (by simpa using h) hi;rw[<-this];congr 1;rw[nP,qU];omega
theorem wg {z:Array Value} {sz:Nat} (hz:z.size=sz) (h0:0<sz) (k:Nat):(madeCells z (k*sz)).toList=(List.replicate k z.toList).flatten:=by
 have fQ:(List.replicate k z.toList).flatten.length=k*sz:=by simp[hz]
 apply Gq;intro i;rcases aV i (k*sz) with hi | hi
 ·have h1:i/sz<k:=Nat.div_lt_of_lt_mul (by rw[eM];exact hi);have h2:=DR (sz:=sz) (css:=List.replicate k z.toList) (λc hc=>by rw[(CU.1 hc).2,tL,hz]) (k:=i/sz) (c:=z.toList) (by rw[yh,fi h1]) (pv i h0);rw[Nat.div_add_mod' i sz] at h2;rw[h2];unfold madeCells;have h3:i%sz<z.size:=by rw[hz];exact pv _ h0
  simp[hz,hi];rw[getElem!_pos z (i%sz) h3,tG h3]
 ·rw[iQ (l:=(madeCells z (k*sz)).toList) (by rw[tL,size_madeCells];exact hi),iQ (by rw[fQ];exact hi)]
theorem Tt {C:bO} {t e:TypeId} {K:Kd} (h:a5G C t=some (e,K)):C.P.underlying t=some (.slice e)/\∃inf z,C.P.info? e=some inf/\inf.zero=some z/\inf.size=K.sz/\inf.bytes<=128/\zK K z.cells.toList=true/\K.big=true/\0<K.sz:=by
 unfold a5G at h;split at h
 ·rename_i e' hu;split at h
  ·rename_i inf K' hi hk;split at h
   ·rename_i z hz
    cases hb:(Nat.beq inf.size K'.sz&&(Nat.ble inf.bytes 128&&(zK K' z.cells.toList&&(K'.big&&Nat.blt 0 K'.sz)))) with
    | false=>rw[hb] at h;cases h
    | true=>
     rw[hb,fh] at h;injection h with h
     injection h with h1 h2;subst h1;subst h2;simp only[aI,pj,Hw,Df] at hb;exact⟨hu,inf,z,hi,hz,hb.1,hb.2.1,hb.2.2.1,hb.2.2.2.1,hb.2.2.2.2⟩
   ·cases h
  ·cases h
 ·cases h
theorem Oy {C:bO} {t e:TypeId} {K:Kd} (h:AT C t=some (e,K)):C.P.underlying t=some (.slice e)/\∃inf z,C.P.info? e=some inf/\inf.zero=some z/\inf.size=K.sz/\inf.bytes<=128/\zK K z.cells.toList=true/\K.big=true/\0<K.sz:=by
 unfold AT at h;split at h
 ·rename_i e' hu;split at h
  ·rename_i inf K' hi hk;split at h
   ·rename_i z hz
    cases hb:(Nat.beq inf.size (AS K').sz&&(Nat.ble inf.bytes 128&&(zK (AS K') z.cells.toList&&((AS K').big&&Nat.blt 0 (AS K').sz)))) with
    | false=>rw[hb] at h;cases h
    | true=>
     rw[hb,fh] at h;injection h with h
     injection h with h1 h2;subst h1;subst h2;simp only[aI,pj,Hw,Df] at hb;exact⟨hu,inf,z,hi,hz,hb.1,hb.2.1,hb.2.2.1,hb.2.2.2.1,hb.2.2.2.2⟩
   ·cases h
  ·cases h
 ·cases h
theorem ij {C:bO} {t e:TypeId} {K:Kd} (h:nj C t=some (e,K)):C.P.underlying t=some (.slice e)/\∃inf z,C.P.info? e=some inf/\inf.zero=some z/\inf.size=K.sz/\inf.bytes<=128/\z.cells.size=K.sz/\(∀v∈z.cells.toList,bf v=true)/\K.big=true/\0<K.sz:=by
 unfold nj at h;split at h
 ·rename_i e' hu;split at h
  ·rename_i inf K' hi hk;split at h
   ·rename_i z hz
    cases hb:(Nat.beq inf.size K'.sz&&(Nat.ble inf.bytes 128&&(Nat.beq z.cells.toList.length K'.sz&&(z.cells.toList.all bf&&(K'.big&&Nat.blt 0 K'.sz))))) with
    | false=>rw[hb] at h;cases h
    | true=>
     rw[hb,fh] at h;injection h with h
     injection h with h1 h2;subst h1;subst h2;simp only[aI,pj,Hw,Df] at hb;exact⟨hu,inf,z,hi,hz,hb.1,hb.2.1,by rw[<-tL];exact hb.2.2.1,λv hv=>tS.1 hb.2.2.2.1 v hv,hb.2.2.2.2.1,hb.2.2.2.2.2⟩
   ·cases h
  ·cases h
 ·cases h
theorem fA {α:Type} {n:Nat} {x y:α} {i:Nat} (h:(List.replicate n x)[i]? = some y):y=x:=(CU.1 (uy h)).2
section
variable {C:bO} {F B0:Nat->Prop} {w0 w:World} {β:Bm} {s:St} {a:Act} {n:Nat} {o:Oper}
theorem AW {ok':Nat->Prop} {w':World} {d sz g Cp len:Nat}:aq ok' w' (cW β d (some (g,Cp,len))) (.own d 0 sz) (.slice (some ⟨g,0,none⟩) len Cp):=⟨[slV (cW β d (some (g,Cp,len)) d 0)],rfl,by rw[cC];rfl⟩
theorem Il (hT:dI C.Tb) (S:bo C F B0 w0 n β s a w) (hd:∀d,o.dst=some d->d<n) {t e:TypeId} {x y:Operand} {K:Kd} {d:Nat} {kl kc:IntKind} {l c:Int} (ho:o.op = .makeSlice t x y) (hK:AT C t=some (e,K)) (exi:a.eval x = .int kl l) (eyi:a.eval y = .int kc c) (h1:0<=l) (h2:l<=c) (h3:c<=1099511627776) :
  oC C F B0 w0 w n a o (jB d o.dst (.arr e K (List.replicate l.toNat K.iC)) (.own d 0 K.sz) s):=by
  obtain⟨hu,inf,z,hi,hz,br,ke,Im,cT,h0⟩:=Oy hK
  have Oz:z.cells.size=inf.size:=by rw[br,<-tL];exact(je (ok:=λ_=>True) (w:=w) Im).len
  have hr:=run_make (P:=C.P) w t e inf z hu hi hz kl kc l c h1 h2 (by
   have j7:(c.toNat:Int)=c:=CO (by omega);have:inf.bytes*c.toNat<=128*1099511627776:=x6 ke (by omega);have h5:((inf.bytes*c.toNat:Nat):Int)<=281474976710656:=by omega
   rw[xX,j7] at h5;exact h5) (by omega)
  have fQ:=wg Oz (by omega) c.toNat
  have vd:List.replicate c.toNat z.cells.toList=List.replicate l.toNat z.cells.toList++List.replicate (c.toNat-l.toNat) z.cells.toList:=by rw[Gz];congr 1;omega
  refine cO (v:=.slice (some ⟨w.heap.size,0,none⟩) l.toNat c.toNat) (w':=w.alloc (.cells (madeCells z.cells (c.toNat*inf.size)) e)) ?_ ⟨⟨cW β d (some (w.heap.size,c.toNat,l.toNat)),?_⟩,gG⟩
  ·unfold execOp
   simp only[ho,exi,eyi,Sem.run_bind,hr,Result.andThen_ok,Sem.run_pure]
  ·have e1:Ext w (w.alloc (.cells (madeCells z.cells (c.toNat*inf.size)) e)):=(Ext.refl w).alloc _
   have dm:ar (w.alloc (.cells (madeCells z.cells (c.toNat*inf.size)) e)) w.heap.size e ((List.replicate l.toNat z.cells.toList).flatten++(List.replicate (c.toNat-l.toNat) z.cells.toList).flatten):=by have:=ar.new w e (madeCells z.cells (c.toNat*inf.size)).toList;rw[yr] at this;rw[<-CP,<-vd,<-fQ];exact this
   have rI:∀v∈(madeCells z.cells (c.toNat*inf.size)).toList,bf v=true:=by intro v hv;rw[fQ] at hv;obtain⟨l',fk,hv⟩:=Hn.1 hv;rw[(CU.1 fk).2] at hv;exact bj.kV cT (je (ok:=λ_=>True) (w:=w) Im) v hv
   refine rH hT S hd (ob:=.arr e K (List.replicate l.toNat K.iC)) rfl e1 (bX _) jC (gj rI (by rw[yr])) (λok' dC=>?_) λok'=>AW
   show aS ok' _ (cW β d (some (w.heap.size,c.toNat,l.toNat)) d 0) e K _
   rw[cC]
   have hle:l.toNat<=c.toNat:=by omega
   refine⟨List.replicate l.toNat z.cells.toList,_,dm,by simp,λi x' c' hx j7=>?_,?_,by simp,by simp;omega,by simp;unfold aB;omega⟩
   ·rw[fA hx,fA j7]
    exact je Im
   ·rw[<-CP,<-vd]
    simp[Oz,br]
theorem Tu (hT:dI C.Tb) (S:bo C F B0 w0 n β s a w) (hd:∀d,o.dst=some d->d<n) {t:TypeId} {x y:Operand} {g:Option Prop} {s':St} (ho:o.op = .makeSlice t x y) (h:a4Z C s o.dst t (ev s.m x) (ev s.m y)=some (g,s')):bt g->oC C F B0 w0 w n a o s':=by
 intro hg;unfold a4Z at h;split at h
 ·rename_i d e K kl l kc c ib hK hl hc;injection h with h
  injection h with h1 h;subst h1;subst h;have ex:=ew S.slot x;have ey:=ew S.slot y;rw[hl] at ex;rw[hc] at ey;exact Il hT S hd ho hK ex.int ey.int hg.1 hg.2.1 hg.2.2
 ·cases h
theorem Tv:∀{K:Kd} {v:AV} {x:K.T},asK K v=some x->K.row=true->v.row=true:=by
 have gen:∀{K K':Kd} {y:K'.T} {x:K.T},(if h:K'=K then some (h ▸ y) else none)=some x->K.row=true->K'.row=true:=by
  intro K K' y x h hr;split at h
  ·rename_i e;rw[e];exact hr
  ·cases h
 intro K v x h hr
 cases K with
 | list e=>cases hr
 | pr a b=>
  unfold asK at h;split at h
  ·exact gen h hr
  ·rfl
  ·cases h
 | un=>
  unfold asK at h;split at h
  ·exact gen h hr
  ·rfl
  ·cases h
 | oq=>
  unfold asK at h;split at h
  ·split at h
   ·rename_i e;subst e;rfl
   ·split at h
    ·rename_i e;subst e;rfl
    ·cases h
  ·cases h
 | _=>
  unfold asK at h;split at h
  ·exact gen h hr
  ·cases h
theorem DS {ok:Nat->Prop} {K:Kd} {m:Sl} (hs:∀t,aq ok w β (lk m t) (a.tmps.getD t undef)) (br:K.row=true\/K.sz=1) (hK:∀(x:K.T) (c:List Value),bj ok w K x c->c.length=K.sz):∀{parts:List (Nat×Operand)} {k:Nat} {xs:List K.T},a2y K m k parts=some xs ->
  ∃css:List (List Value),css.length=xs.length/\xs.length=parts.length/\(∀(i:Nat) (x:K.T) (c:List Value),xs[i]? = some x->css[i]? = some c->bj ok w K x c)/\(∀c∈css,c.length=K.sz) /\
   ∀(pre suf:List Value),pre.length=k*K.sz->suf.length=parts.length*K.sz->Instr.fill (λi=>some (i*K.sz,K.sz)) (pre++suf).toArray (parts.map λp=>(p.1,a.eval p.2))=some (pre++css.flatten).toArray
 | [],k,xs,h=>by simp only[a2y,fK] at h;subst h;refine⟨[],rfl,rfl,λi x c hx=>by simp at hx,by simp,λpre suf hp hsf=>?_⟩;have:suf=[]:=iP (by simpa using hsf);subst this;simp[Instr.fill]
 | (i,x)::parts,k,xs,h=>by
  unfold a2y at h
  cases hb:Nat.beq i k with
  | false=>rw[hb] at h;cases h
  | true=>
   rw[hb,fh] at h;rw[pj] at hb;subst hb;split at h
   ·rename_i y ys h1 h2;injection h with h
    subst h;obtain⟨css,e1,e2,e3,e4,e5⟩:=DS hs br hK h2;obtain⟨c,hr,hv⟩:=ew hs x;have hk:=rG h1 hr;have hl:=hK _ _ hk;refine⟨c::css,by simp[e1],by simp[e2],λj x' c' hx hc=>?_,λc' hc=>?_,λpre suf hp hsf=>?_⟩
    ·cases j with
     | zero=>simp only[ye,fK] at hx hc;subst hx;subst hc;exact hk
     | succ j=>exact e3 j x' c' (by simpa using hx) (by simpa using hc)
    ·rcases tQ.1 hc with rfl | hc
     ·exact hl
     ·exact e4 c' hc
    ·have aK:(a.eval x).cells.toList=c:=by
      rw[hv];have ahW:(ev m x).wid=K.sz:=hr.len.symm.trans hl
      cases gK:(ev m x).row with
      | true=>rfl
      | false=>
       have Tw:=bj.one hk;have h1':c.length=1:=by
        rcases br with br | br
        ·exfalso;revert gK;have:(ev m x).row=true:=Tv h1 br;rw[this];simp
        ·rw[hl,br]
       obtain⟨u,rfl⟩:∃u,c=[u]:=by
        match c,h1' with
        | [u],_=>exact⟨u,rfl⟩
       have ho:=Tw u (kI.2 rfl);simp only[pack,q9,CZ]
       cases u<;>first | rfl | cases ho
     have ahX:suf=suf.take K.sz++suf.drop K.sz:=(uX ..).symm;have Yy:suf.length=K.sz+parts.length*K.sz:=by rw[hsf,tT,nP,qU,Aa]
     rw[Ag,sV (off:=i*K.sz) (sz:=K.sz) (pre:=pre) (mid:=suf.take K.sz) (suf:=suf.drop K.sz) rfl (by rw[<-tL,aK,hl]) (by simp) hp (by rw[iY];omega),aK];have:=e5 (pre++c) (suf.drop K.sz) (by rw[c6,hp,hl,nP,qU]) (by rw[Cf,Yy];omega);rw[vv] at this;rw[this,vv,Cs]
   ·cases h
end
def DT (d:Nat) (dst:Option Tmp) (ob:Ob) (s:St):St:=⟨azw s.m dst .ud,(d,ob)::s.H⟩
def a4n (C:bO) (s:St) (dst:Option Tmp) (t:TypeId) (p v:AV):SR:=match p with
 | .pt id r sz i off=>bif jd C.P t v.row v.wid&&sY v then (match lkH s.H id with
  | some (.box tt u)=>bif (Nat.beq r 0&&Nat.beq i 0) && !v.atz id then (match AV.upd 5 u off v with
   | some u'=>some (none,DT id dst (.box tt u') s)
   | none=>none) else none
  | some (.arr e K xs)=>bif Nat.beq r 0&&(Nat.beq sz K.sz&&K.big) then
    (match AV.upd 5 (.k K (xs.getD i K.iC)) off v with
    | some u=>match asK K u with
     | some x=>some (some (i<xs.length),DT id dst (.arr e K (xs.set i x)) s)
     | none=>none
    | none=>none) else none
  | some (.bc oo e K out ai)=>match r with
   | 0=>match v with
    | .own aR (q+1) _=>bif Nat.beq aR id&&(Nat.beq sz 1&&Nat.beq off 0) then some (some (i<out.length/\q<ai.length),DT id dst (.bc oo e K (out.set i q) ai) s) else none
    | _=>none
   | p+1=>bif Nat.beq sz K.sz&&K.big then
    (match AV.upd 5 (.k K ((ai.getD p []).getD i K.iC)) off v with
    | some u=>match asK K u with
     | some x=>some (some (p<ai.length/\i<(ai.getD p []).length),DT id dst (.bc oo e K out (ai.set p ((ai.getD p []).set i x))) s)
     | none=>none
    | none=>none) else none
  | _=>none) else none
 | _=>none
theorem jf {g:Nat} {t:TypeId}:∀{vs cs:List Value} {o:Nat} {w:World},ar w g t cs->ar (w.setCells g o vs) g t (aPR cs o vs)
 | [],_,_,_,h=>h
 | v::r,_,o,_,h=>jf (vs:=r) (h.set o v)
theorem sZ {g:Nat} {w0:World}:∀{vs:List Value} {o:Nat} {w:World},bS g w0 w->bS g w0 (w.setCells g o vs)
 | [],_,_,h=>h
 | v::r,o,_,h=>sZ (vs:=r) (h.set o v)
theorem bM {g:Nat}:∀(vs:List Value) (o:Nat) (w:World),(w.setCells g o vs).heap.size=w.heap.size
 | [],_,_=>rfl
 | v::r,o,w=>by rw[World.setCells,bM r];simp
theorem gm {g i:Nat} {vs:List Value} {o:Nat} {w:World} (hi:i<w.heap.size) (ay:i≠g):(w.setCells g o vs).heap[i]? = w.heap[i]?:=(sZ (bS.refl g w)).block i hi λe=>ay (by injection e)
theorem pE {B0:Nat->Prop} {w0 w:World} {g o:Nat} {vs:List Value} (h:fm B0 w0 w) (hg:B0 g\/w0.heap.size<=g):fm B0 w0 (w.setCells g o vs):=by
 have hb:=sZ (g:=g) (vs:=vs) (o:=o) (bS.refl g w);refine⟨hb.os.trans h.os,hb.tape.trans h.tape,hb.output.trans h.output,by rw[bM];exact h.size,λi hi hn=>?_⟩;have ay:i≠g:=λe=>by
  subst e;rcases hg with h' | h'
  ·exact hn h'
  ·omega
 exact(gm (dz hi h.size) ay).trans (h.block i hi hn)
theorem OA {α:Type} {l:List α} {i:Nat} {x:α} (h:l[i]? = some x):l=l.take i++x::l.drop (i+1)/\(∀y,l.set i y=l.take i++y::l.drop (i+1))/\(l.take i).length=i:=by
 have aU:i<l.length:=by
  rcases aV i l.length with h' | h'
  ·exact h'
  ·rw[iQ h'] at h;cases h
 have hx:l[i]=x:=by rw[bF aU] at h;injection h
 refine⟨?_,λy=>?_,by rw[iY];omega⟩
 ·rw[<-hx,<-tH aU,uX]
 ·rw[List.set_eq_take_append_cons_drop,fi aU]
theorem OC {css:List (List Value)} {sz i:Nat} {pre mid suf c sp:List Value} (hs:∀c∈css,c.length=sz) (hi:css[i]? = some (pre++(mid++suf))) (hm:mid.length=c.length) :
  aPR (css.flatten++sp) (i*sz+pre.length) c=(css.set i (pre++(c++suf))).flatten++sp:=by
 obtain⟨h1,h2,h3⟩:=OA hi
 have fQ:(css.take i).flatten.length=i*sz:=kE hs (by
  rcases aV i css.length with h' | h'
  ·omega
  ·rw[iQ h'] at hi;cases hi)
 rw[h2]
 have:=kD c ((css.take i).flatten++pre) mid (suf++((css.drop (i+1)).flatten++sp)) hm
 rw[c6,fQ] at this
 have e:css.flatten++sp=((css.take i).flatten++pre)++(mid++(suf++((css.drop (i+1)).flatten++sp))):=by
  conv=>lhs;rw[h1]
  simp
 rw[e,this]
 simp
section
variable {P:Program} {ok:Nat->Prop} {w:World} {β:Bm}
theorem Tx {f:AV->Nat->Option AV} {u:AV} {c:List Value} (hf:∀a o b (cs:List Value),f a o=some b->Rel ok w β a false cs->∃pre mid suf,cs=pre++(mid++suf)/\pre.length=o/\mid.length=c.length/\Rel ok w β b false (pre++(c++suf))):∀{fs:AV} {off:Nat} {r:AV} {cs:List Value},DC f fs off=some r->Rel ok w β fs false cs ->
  ∃pre mid suf,cs=pre++(mid++suf)/\pre.length=off/\mid.length=c.length/\Rel ok w β r false (pre++(c++suf)):=by
 intro fs
 induction fs with
 | cons a b _ ih=>
  intro off r cs h hr
  obtain⟨p,q,h1,h2,rfl⟩:=hr
  unfold DC at h
  cases hb:Nat.blt off a.wid with
  | true=>
   rw[hb,fh] at h
   cases ha:f a off with
   | none=>rw[ha] at h;cases h
   | some x=>
    rw[ha] at h
    injection h with h
    subst h
    obtain⟨pre,mid,suf,rfl,h3,h4,h5⟩:=hf _ _ _ _ ha h1
    exact⟨pre,mid,suf++q,by simp,h3,h4,⟨_,q,h5,h2,by simp⟩⟩
  | false=>
   rw[hb,q9] at h
   cases cX:DC f b (off-a.wid) with
   | none=>rw[cX] at h;cases h
   | some x=>
    rw[cX] at h
    injection h with h
    subst h
    obtain⟨pre,mid,suf,rfl,h3,h4,h5⟩:=ih cX h2
    have hl:=h1.len
    have:a.wid<=off:=by
     rcases aV off a.wid with h' | h'
     ·rw[show Nat.blt off a.wid=true by simpa [Df] using h'] at hb;cases hb
     ·exact h'
    exact⟨p++pre,mid,suf,by simp,by rw[c6,hl];omega,h4,⟨p,_,h1,h5,by simp⟩⟩
 | _=>intro off r cs h;cases h
theorem AX:∀(n:Nat) {v u r:AV} {off:Nat} {cs c:List Value},AV.upd n v off u=some r->Rel ok w β u false c->Rel ok w β v false cs ->
  ∃pre mid suf,cs=pre++(mid++suf)/\pre.length=off/\mid.length=c.length/\Rel ok w β r false (pre++(c++suf))
 | 0,_,_,_,_,_,_,h,_,_=>by cases h
 | n+1,v,u,r,off,cs,c,h,hu,hr=>by
  unfold AV.upd at h
  cases hb:(Nat.beq off 0&&((v.row == u.row)&&Nat.beq v.wid u.wid)) with
  | true=>
   rw[hb,fh] at h;injection h with h
   subst h;simp only[aI,pj,yp] at hb;exact⟨[],cs,[],by simp,by simp[hb.1],by rw[hr.len,hu.len,hb.2.2],by simpa using hu⟩
  | false=>
   rw[hb,q9] at h
   cases hf:v.fields with
   | none=>rw[hf] at h;cases h
   | some fs=>
    rw[hf] at h;simp only at h;split at h
    ·rename_i x hx;injection h with h
     subst h;have:=Tx (u:=u) (λa o b sT h1 h2=>AX n h1 hu h2) hx (qx hf hr).1;exact this
    ·cases h
theorem run_store {t:TypeId} {v:Value} {c:List Value} {g o:Nat} {sz:Nat} {row:Bool} {tt:TypeId} {cs:List Value} (hl:jd P t row sz=true) (hc:v.cells.toList=c) (br:c.length=sz) (h1:∀u∈c,u.oneCell'=true) (hb:ar w g tt cs) (lH:o+c.length<=cs.length) :
  (Instr.storeAt t (.pointer (some ⟨g,o,none⟩)) v).run P w = .ok () (w.setCells g o c):=by
 have abE:∃inf,P.info? t=some inf/\inf.size=sz:=by
  unfold jd at hl;split at hl
  ·rename_i d inf hu hi;rw[aI,pj] at hl;exact⟨inf,hi,hl.2⟩
  ·cases hl
 obtain⟨inf,hi,Ty⟩:=abE
 have mB:v.cells.size=sz:=by rw[<-tL,hc,br]
 have ec:(storeCells ⟨g,o,none⟩ c 0).run P w = .ok () (w.setCells g (o+0) c):=by refine run_storeCells_cells (P:=P) g o c 0 w (λj hj=>?_) (λj hj=>hb.frozen _) h1;rw[hb.cell,bF (by omega)];rfl
 rw[qX] at ec
 simp only[Instr.storeAt,Instr.sureAddr,storeVar,sizeOf,typeInfo]
 simp[hi,Ty,mB,hc,ec]
theorem wh {ok':Nat->Prop} {e:TypeId} {K:Kd} {xs:List K.T} {b:Option (Nat×Nat×Nat)} {g:Nat} {x:Nat×Nat} (h:aS ok w b e K xs) (hb:b=some (g,x)) {i off:Nat} {c:List Value} {v u:AV} {y:K.T} (hi:i<xs.length) (hv:Rel ok w β v false c) (hu:AV.upd 5 (.k K (xs.getD i K.iC)) off v=some u) (hy:asK K u=some y)
  (cT:K.big=true) (sF:Kp ok w (w.setCells g (i*K.sz+off) c)) (ho:∀i,i<w.heap.size->ok i->ok' i) :
  ∃cs,ar w g e cs/\i*K.sz+off+c.length<=cs.length/\aS ok' (w.setCells g (i*K.sz+off) c) b e K (xs.set i y)/\ar (w.setCells g (i*K.sz+off) c) g e (aPR cs (i*K.sz+off) c):=by
 subst hb
 obtain⟨css,sp,h1,h2,h3,h4,h5,h6,h7⟩:=h
 have hc:css[i]? = some css[i]:=bF (by omega)
 have hs:=rA h2 h3
 have rf:=h3 i _ _ (fG hi K.iC) hc
 obtain⟨pre,mid,suf,e1,e2,e3,e4⟩:=AX 5 (β:= β) hu hv (show Rel ok w β (.k K (xs.getD i K.iC)) false css[i] from rf)
 have kW:=rG hy e4
 rw[e1] at hc
 have cD:=OC (sp:=sp) hs hc e3
 rw[e2] at cD
 have br:(pre++(mid++suf)).length=K.sz:=hs _ (uy hc)
 have dm:=jf (vs:=c) (o:=i*K.sz+off) h1
 have lH:i*K.sz+off+c.length<=(css.flatten++sp).length:=by
  have hf:=kE (k:=css.length) hs (bX _);rw[qY] at hf;have h8:i*K.sz+K.sz<=css.length*K.sz:=by
   calc i*K.sz+K.sz=(i+1)*K.sz:=by rw[nP,qU]
    _<=css.length*K.sz:=cM _ (by omega)
  rw[c6,hf];rw[c6,c6,e2,e3] at br;omega
 refine⟨_,h1,lH,?_,dm⟩
 rw[cD] at dm
 refine⟨css.set i (pre++(c++suf)),sp,dm,by rw[px,px,h2],λj x' c' hx j7=>?_,?_,by rw[px];exact h5,by rw[px];exact h6,by rw[px];exact h7⟩
 ·by_cases ej:i=j
  ·subst ej
   rw[yk (by omega)] at hx
   rw[yk (by omega)] at j7
   injection hx with hx
   injection j7 with j7
   subst hx;subst j7
   exact kW.ak sF ho
  ·rw[Aw ej] at hx j7
   exact(h3 j x' c' hx j7).ak sF ho
 ·rw[<-cD,j8,h4]
end
section
variable {C:bO} {F B0:Nat->Prop} {w0 w:World} {β:Bm} {s:St} {a:Act} {n:Nat} {o:Oper}
theorem ve (hT:dI C.Tb) (S:bo C F B0 w0 n β s a w) (hd:∀d,o.dst=some d->d<n) {d:Nat} {ob ob':Ob} {w':World} (nk:lkH s.H d=some ob) (jX:ob'.bZ=ob.bZ) (jM:fm B0 w0 w') (br:w'.heap.size=w.heap.size)
  (hs:∀i,i<w.heap.size->(∀r x,r<ob.bZ->β d r≠some (i,x))->w'.heap[i]? = w.heap[i]?)
  (cT:∀r g x,r<ob.bZ->β d r=some (g,x)->∀j v,w'.cell? ⟨g,j,none⟩=some v->bf v=true)
  (hob:Kp (Ok F w0 β s.H) w w'->cI (Ok F w0 β s.H) w' β d ob'):bo C F B0 w0 n β (DT d o.dst ob' s) (a.put o.dst undef) w':=by
 have iF:∀i,Ok F w0 β s.H i->Ok F w0 β ((d,ob')::s.H) i:=λi h=>⟨h.1,λhO=>h.2 (by
  obtain⟨id,r,Cx,aQ,h1,h2,h3⟩:=hO;by_cases e:id=d
  ·subst e;rw[aF] at h1;injection h1 with h1
   subst h1;exact⟨id,r,Cx,ob,nk,by omega,h3⟩
  ·rw[aW e] at h1;exact⟨id,r,Cx,aQ,h1,h2,h3⟩)⟩
 obtain⟨M',hk,ho⟩:=S.mem.upd hT nk jX jM br hs cT λhk=>(hob hk).ak (Kp.aO (Ext.refl w')) (λi _ h=>iF i h) rfl (λ_ _=>rfl) λ_ _ _ _ _=>rfl
 exact⟨M',by rw[dF];exact S.size,by rw[cP];exact S.defs,dE (lF S.slot hk λi _ h=>ho i h) S.size hd ⟨[undef],rfl,rfl⟩⟩
theorem iG {w:World} {g o:Nat} {t:TypeId} {cs c:List Value} (hb:ar (w.setCells g o c) g t (aPR cs o c)) (h1:∀v∈cs,bf v=true) (h2:∀v∈c,bf v=true):∀j v,(w.setCells g o c).cell? ⟨g,j,none⟩=some v->bf v=true:=by
 intro j v hv;rw[hb.cell] at hv;have hm:=uy hv;have key:∀(c cs:List Value) (o:Nat),(∀v∈cs,bf v=true)->(∀v∈c,bf v=true)->∀v∈aPR cs o c,bf v=true:=by
  intro c;induction c with
  | nil=>intro cs o h _ v hv;exact h v hv
  | cons x c ih=>
   intro cs o h h' v hv;refine ih (cs.set o x) (o+1) (λu hu=>?_) (λu hu=>h' u (qZ _ hu)) v hv;rcases G6 hu with hu | rfl
   ·exact h u hu
   ·exact h' _ (tF ..)
 exact key c cs o h1 h2 v hm
theorem jD (M:Mem C.Tb F B0 w0 β s.H w) {id r g:Nat} {x:Nat×Nat} {ob:Ob} {t:TypeId} {cs:List Value} (h:lkH s.H id=some ob) (hr:r<ob.bZ) (hb:β id r=some (g,x)) (hB:ar w g t cs):∀v∈cs,bf v=true:=by intro v hv;obtain⟨j,hj⟩:=yV.1 hv;exact(M.own g (M.ob h hr hb)).2.2 j v (by rw[hB.cell];exact hj)
theorem OD (hT:dI C.Tb) (S:bo C F B0 w0 n β s a w) (hd:∀d,o.dst=some d->d<n) {t:TypeId} {x y:Operand} {g:Option Prop} {s':St} (ho:o.op = .store t x y) (h:a4n C s o.dst t (ev s.m x) (ev s.m y)=some (g,s')):bt g->pV C F B0 w0 w n a o s':=by
 intro hg;have hx:=ew S.slot x;obtain⟨c,hv,hve⟩:=ew S.slot y;generalize ev s.m x=p at *
 generalize ev s.m y=v at *
 unfold a4n at h;split at h
 ·rename_i id r sz i off
  cases kf:(jd C.P t v.row v.wid&&sY v) with
  | false=>rw[kf] at h;cases h
  | true=>
   rw[kf,fh] at h;simp only[sY,aI,xP,pj] at kf;obtain⟨Tj,aaq,abF,gK⟩:=kf;have rD:=aWk aaq hv gK;rw[<-hve] at rD;have Tw:=Rel.one aaq hv;have AY:=hv.kV abF;obtain⟨cp,⟨g',Cp,len,bN,rfl⟩,lP⟩:=hx;have lP:a.eval x = .pointer (some ⟨g',i*sz+off,none⟩):=lP;have run:∀{tt:TypeId} {cs:List Value},ar w g' tt cs->i*sz+off+c.length<=cs.length->(execOp a.eval o).run C.P w = .ok .skip (w.setCells g' (i*sz+off) c):=by intro tt cs hB lH;have:=run_store (P:=C.P) Tj rD hv.len Tw hB lH;unfold execOp;simp only[ho,lP,Sem.run_bind,this,Result.andThen_ok,Sem.run_pure]
   cases hH:lkH s.H id with
   | none=>rw[hH] at h;cases h
   | some ob=>
    rw[hH] at h;have hm:=S.mem.dD id _ hH;have others:∀{r},r<ob.bZ->β id r=some (g',Cp,len)->∀i,i<w.heap.size->(∀r x,r<ob.bZ->β id r≠some (i,x))->∀o,(w.setCells g' o c).heap[i]? = w.heap[i]?:=λhr hb i hi hn o=>gm hi λe=>by subst e;exact hn _ _ hr hb
    have fr:∀{r},r<ob.bZ->β id r=some (g',Cp,len)->∀o,fm B0 w0 (w.setCells g' o c):=λhr hb o=>pE S.mem.fr (S.mem.own g' (S.mem.ob hH hr hb)).1
    cases ob with
    | dead=>cases h
    | box tt u=>
     simp only at h
     cases hb:((Nat.beq r 0&&Nat.beq i 0) && !v.atz id) with
     | false=>rw[hb] at h;cases h
     | true=>
      rw[hb,fh] at h;simp only[aI,pj,tE] at hb;obtain⟨⟨rfl,rfl⟩,hvu⟩:=hb;split at h
      ·rename_i u' hu;injection h with h
       injection h with _ h;subst h;obtain⟨g2,C2,n2,cs,h1,h2,h3⟩:=hm;rw[h1] at bN;injection bN with bN;injection bN with e1 e2;injection e2 with e2 e3;subst e1;subst e2;subst e3;obtain⟨pre,mid,suf,rfl,h4,h5,h6⟩:=AX 5 hu hv h3;have cD:=kD c pre mid suf h5;rw[h4] at cD;have dm:=jf (vs:=c) (o:=0*sz+off) h2;rw[xY,kJ] at dm;have lH:0*sz+off+c.length<=(pre++(mid++suf)).length:=by simp[<-h4,h5]
       refine pD (run h2 lH) ⟨β,?_⟩;rw[xY,kJ];refine ve hT S hd hH rfl (fr Nat.one_pos h1 _) (bM ..) (λi hi hn=>others Nat.one_pos h1 i hi hn _) (λr' AZ x' hr hb=>?_) λhk=>⟨g2,C2,n2,pre++(c++suf),h1,by rw[<-cD];exact dm,h6.ak hk (λ_ _ h=>h) λ_ _=>rfl⟩
       have uH:r'=0:=by have:r'<1:=hr;omega
       subst uH;rw[h1] at hb;injection hb with hb
       injection hb with hb _;subst hb;exact iG dm (jD S.mem hH Nat.one_pos h1 h2) AY
      ·cases h
    | arr e K xs=>
     simp only at h
     cases hb:(Nat.beq r 0&&(Nat.beq sz K.sz&&K.big)) with
     | false=>rw[hb] at h;cases h
     | true=>
      rw[hb,fh] at h;simp only[aI,pj] at hb;obtain⟨rfl,rfl,hKb⟩:=hb;split at h
      ·rename_i u hu;split at h
       ·rename_i y' hy;injection h with h
        injection h with fc h;subst h;subst fc;have hi:i<xs.length:=hg;have AG:Kp (Ok F w0 β s.H) w (w.setCells g' (i*K.sz+off) c):=S.mem.kp (by rw[bM];exact bX _) λj hj hn=>gm hj λe=>by subst e;exact hn (S.mem.ob hH Nat.one_pos bN)
        obtain⟨cs,h1,h2,h3,h4⟩:=wh (ok':=Ok F w0 β s.H) hm bN hi hv hu hy hKb AG (λ_ _ h=>h);refine pD (run h1 h2) ⟨β,?_⟩;refine ve hT S hd hH rfl (fr Nat.one_pos bN _) (bM ..) (λi hi hn=>others Nat.one_pos bN i hi hn _) (λr' AZ x' hr hb=>?_) λ_=>h3;have uH:r'=0:=by have:r'<1:=hr;omega
        subst uH;rw[bN] at hb;injection hb with hb
        injection hb with hb _;subst hb;exact iG h4 (jD S.mem hH Nat.one_pos bN h1) AY
       ·cases h
      ·cases h
    | bc oo e K out ai=>
     cases r with
     | zero=>
      simp only at h;split at h
      ·rename_i aR q eI
       cases hb:(Nat.beq aR id&&(Nat.beq sz 1&&Nat.beq off 0)) with
       | false=>rw[hb] at h;cases h
       | true=>
        rw[hb,fh] at h;simp only[aI,pj] at hb;obtain⟨rfl,rfl,rfl⟩:=hb;injection h with h
        injection h with fc h;subst h;subst fc;obtain⟨hi,hq⟩:i<out.length/\q<ai.length:=hg;obtain⟨⟨hn,_⟩ | ⟨g2,C2,cs,sp,h1,h2,h3,h4,h5,h6⟩,h7,h8⟩:=hm
        ·rw[hn] at bN;cases bN
        rw[h1] at bN;injection bN with bN
        injection bN with e1 e2;injection e2 with e2 e3;subst e1;subst e2;subst e3;have hc:c=[slV (β aR (q+1))]:=hv;subst hc;have dm:=jf (vs:=[slV (β aR (q+1))]) (o:=i*1+0) h2;have lH:i*1+0+1<=(cs++sp).length:=by rw[c6];omega
        have cD:aPR (cs++sp) (i*1+0) [slV (β aR (q+1))]=cs.set i (slV (β aR (q+1)))++sp:=by simp only[uB,qX,aPR];rw[GK _ _ (by omega)]
        refine pD (run h2 lH) ⟨β,?_⟩;have wi:0<(Ob.bc oo e K out ai).bZ:=Ak _;refine ve hT S hd hH rfl (fr wi h1 _) (bM ..) (λi hi hn=>others wi h1 i hi hn _) (λr' AZ x' hr hb=>?_) λhk=>⟨.inr ⟨g2,C2,cs.set i (slV (β aR (q+1))),sp,by rw[px];exact h1,by rw[<-cD];exact dm,by rw[px,px];exact h3,by rw[c6,px,<-c6];exact h4,by rw[px];exact h5,λj p hp=>?_⟩,λp row hp=>?_,h8⟩
        ·by_cases er:r'=0
         ·subst er;rw[h1] at hb;injection hb with hb
          injection hb with hb _;subst hb;exact iG dm (jD S.mem hH wi h1 h2) AY
         ·intro j v' yC;have ay:AZ≠g2:=λe'=>by
           subst e';exact er (S.mem.inj _ _ _ _ _ _ _ _ _ hH hr hb hH wi h1).2
          have aU:=(S.mem.own AZ (S.mem.ob hH hr hb)).2.1;exact(S.mem.own AZ (S.mem.ob hH hr hb)).2.2 j v' ((World.cell?_of_block (a:=⟨AZ,j,none⟩) (gm aU ay)).symm.trans yC)
        ·by_cases ej:i=j
         ·subst ej;rw[yk (by omega)] at hp;injection hp with hp
          subst hp;exact⟨hq,_,yk (by omega),rfl⟩
         ·rw[Aw ej] at hp;obtain⟨a1,v1,a2,a3⟩:=h6 j p hp;exact⟨a1,v1,by rw[Aw ej];exact a2,a3⟩
        ·refine(h7 p row hp).ak hk (λ_ _ h=>h) λg3 x3 fH=>?_;have aU:p<ai.length:=by
          rcases aV p ai.length with h' | h'
          ·exact h'
          ·rw[iQ h'] at hp;cases hp
         have bx:p+1<(Ob.bc oo e K out ai).bZ:=ux aU;refine gm (S.mem.own g3 (S.mem.ob hH bx fH)).2.1 λe'=>?_;subst e';have:=(S.mem.inj _ _ _ _ _ _ _ _ _ hH bx fH hH wi h1).2;omega
      ·cases h
     | succ p=>
      simp only at h
      cases hb:(Nat.beq sz K.sz&&K.big) with
      | false=>rw[hb] at h;cases h
      | true=>
       rw[hb,fh] at h;simp only[aI,pj] at hb;obtain⟨rfl,hKb⟩:=hb;split at h
       ·rename_i u hu;split at h
        ·rename_i y' hy;injection h with h
         injection h with fc h;subst h;subst fc;obtain⟨hp,hi⟩:p<ai.length/\i<(ai.getD p []).length:=hg;have hr:p+1<(Ob.bc oo e K out ai).bZ:=ux hp;obtain⟨h0,h7,h8⟩:=hm;have AG:Kp (Ok F w0 β s.H) w (w.setCells g' (i*K.sz+off) c):=S.mem.kp (by rw[bM];exact bX _) λj hj hn=>gm hj λe=>by subst e;exact hn (S.mem.ob hH hr bN)
         obtain⟨sT,a1,a2,a3,a4⟩:=wh (ok':=Ok F w0 β s.H) (h7 p _ (fG hp [])) bN hi hv hu hy hKb AG (λ_ _ h=>h);refine pD (run a1 a2) ⟨β,?_⟩;have cN:∀{r2 g3 x3},r2<(Ob.bc oo e K out ai).bZ->r2≠p+1->β id r2=some (g3,x3)->(w.setCells g' (i*K.sz+off) c).heap[g3]? = w.heap[g3]?:=fun {r2 g3 x3} nY ay fH=>gm (S.mem.own g3 (S.mem.ob hH nY fH)).2.1 λe'=>by subst e';exact ay (S.mem.inj _ _ _ _ _ _ _ _ _ hH nY fH hH hr bN).2
         refine ve hT S hd hH (by show(ai.set p _).length+1=_;rw[px];rfl) (fr hr bN _) (bM ..) (λi hi hn=>others hr bN i hi hn _) (λr' AZ x' uG hb=>?_) λhk=>⟨h0.imp (λh=>h) λ⟨g2,C2,cs,sp,h1,h2,h3,h4,h5,h6⟩=>⟨g2,C2,cs,sp,h1,(cN (Ak _) (by omega) h1).trans h2,h3,h4,h5,λj p' hp'=>by obtain⟨b1,v1,b2,b3⟩:=h6 j p' hp';exact⟨by rw[px];exact b1,v1,b2,b3⟩⟩,λp' row hp'=>?_,λp' hp'=>h8 p' (by rw[px] at hp';exact hp')⟩
         ·by_cases er:r'=p+1
          ·subst er;rw[bN] at hb;injection hb with hb
           injection hb with hb _;subst hb;exact iG a4 (jD S.mem hH hr bN a1) AY
          ·intro j v' yC;exact(S.mem.own AZ (S.mem.ob hH uG hb)).2.2 j v' ((World.cell?_of_block (a:=⟨AZ,j,none⟩) (cN uG er hb)).symm.trans yC)
         ·by_cases ep:p=p'
          ·subst ep;rw[yk hp] at hp';injection hp' with hp'
           subst hp';exact a3
          ·rw[Aw ep] at hp';have aU:p'<ai.length:=by
            rcases aV p' ai.length with h' | h'
            ·exact h'
            ·rw[iQ h'] at hp';cases hp'
           exact(h7 p' row hp').ak hk (λ_ _ h=>h) λg3 x3 fH=>cN (ux aU) (by omega) fH
        ·cases h
       ·cases h
 ·cases h
theorem Io (hT:dI C.Tb) (S:bo C F B0 w0 n β s a w) (hd:∀d,o.dst=some d->d<n) {t:TypeId} {len:Nat} {parts:Array (Nat×Operand)} {g:Option Prop} {s':St} (ho:o.op = .buildSlice t len parts) (h:a3h C s o.dst t len parts=some (g,s')):bt g->oC C F B0 w0 w n a o s':=by
 intro _;unfold a3h at h;split at h
 ·rename_i d e K ib hK;split at h
  ·rename_i xs mg
   cases hb:(Nat.beq parts.toList.length len&&Nat.ble (len*K.sz) 16777216) with
   | false=>rw[hb] at h;cases h
   | true=>
    rw[hb,fh] at h;injection h with h
    injection h with _ h;subst h;simp only[aI,pj,Hw] at hb;obtain⟨hlen,ahY⟩:=hb;obtain⟨hu,inf,z,hi,hz,br,ke,s7,A0,cT,h0⟩:=ij hK;obtain⟨css,e1,e2,e3,e4,e5⟩:=DS S.slot (by cases K<;>simp[Kd.row,Kd.sz]) (λx c h=>h.len) mg;have fQ:=kE (k:=css.length) e4 (bX _);rw[qY] at fQ;have Tz:=e5 [] ((Array.range (len*K.sz)).map (z.cells[· % z.cells.size]!)).toList (by simp) (by simp[hlen]);rw[Aj,Aj,yr] at Tz;have abH:css.length=len:=by rw[e1,e2,hlen]
    have dm:ar (w.alloc (.cells css.flatten.toArray e)) w.heap.size e (css.flatten++[]):=by rw[Ct];exact ar.new w e _
    have rI:∀v∈css.flatten,bf v=true:=by
     intro v hv;obtain⟨c,hc,hv⟩:=Hn.1 hv;obtain⟨i,cw⟩:=yV.1 hc;have aU:i<xs.length:=by
      rw[<-e1];rcases aV i css.length with h' | h'
      ·exact h'
      ·rw[iQ h'] at cw;cases cw
     exact(e3 i _ c (bF aU) cw).kV cT v hv
    refine cO (v:=.slice (some ⟨w.heap.size,0,none⟩) len len) (w':=w.alloc (.cells css.flatten.toArray e)) ?_ ⟨⟨cW β d (some (w.heap.size,len,len)),?_⟩,gG⟩
    ·unfold execOp;have Yz:(parts.map λ(i,x)=>(i,a.eval x)).toList=parts.toList.map λp=>(p.1,a.eval p.2):=by simp
     rcases gA (len*K.sz) with nm | nm
     ·have abI:len=0:=by
       rcases GQ.1 nm with h' | h'
       ·exact h'
       ·omega
      have adF:css=[]:=iP (by omega);have hp0:parts.toList=[]:=iP (by omega);have adG:parts = #[]:=by apply tP;exact hp0
      subst adF;subst abI;subst adG;simp[ho,Instr.buildSlice,run_underlying hu,sizeOf,typeInfo,hi,Instr.fill,newRow,Array.range_zero']
     ·have hn:¬(16777216<len*K.sz):=by omega
      have hn0:¬(len*K.sz=0):=by omega
      simp only[ho,Instr.buildSlice,run_underlying hu,sizeOf,typeInfo,zeroValue,Sem.run_bind,Result.andThen_ok,br,Yz,hn];simp[hi,hz,br,hn,hn0,Tz,newRow]
    ·refine rH hT S hd (ob:=.arr e K xs) rfl ((Ext.refl w).alloc _) (bX _) jC (gj rI rfl) (λok' dC=>?_) λok'=>AW;show aS ok' _ (cW β d (some (w.heap.size,len,len)) d 0) e K _;rw[cC];refine⟨css,[],dm,e1,λi x c hx hc=>(e3 i x c hx hc).ak (Kp.aO ((Ext.refl w).alloc _)) dC,by rw[Ct,fQ,abH],by rw[e2,hlen],by rw[e2,hlen];exact bX _,?_⟩;rw[e2,hlen];have:len<=len*K.sz:=Gg _ h0;unfold aB;omega
  ·cases h
 ·cases h
end
def a4K (H:Hp) (K:Kd):AV->Option (List K.T)
 | .own id 0 _=>match lkH H id with
  | some (.arr _ K' ys)=>asK (.list K) (.k (.list K') ys)
  | _=>none
 | .k K' y=>asK (.list K) (.k K' y)
 | .cp K' y=>asK (.list K) (.cp K' y)
 | .dv=>some []
 | _=>none
def a00 (C:bO) (s:St) (dst:Option Tmp) (c:Call):SR:=match c.argTypes.toList,c.args.toList,dst with
 | [t,t2],[x,y],some d=>match nj C t,C.P.underlying t2 with
  | some (e,K),some (.slice _)=>match a4K s.H K (ev s.m y) with
   | some ys=>match ev s.m x with
    | .dv=>some (some (0<ys.length/\ys.length<=aB),jB d dst (.arr e K ys) (.own d 0 K.sz) s)
    | .cp K' xs=>match asK (.list K) (.cp K' xs) with
     | some xs=>some (some (0<ys.length/\List.length xs+List.length ys<=aB),jB d dst (.arr e K (List.append xs ys)) (.own d 0 K.sz) s)
     | none=>none
    | .own id 0 _=>match lkH s.H id with
     | some (.arr e' K' xs)=>bif Nat.beq e' e then (match asK (.list K) (.k (.list K') xs) with
      | some xs=>some (some (List.length xs+List.length ys<=aB),jB id dst (.arr e K (List.append xs ys)) (.own id 0 K.sz) s)
      | none=>none) else none
     | _=>none
    | _=>none
   | none=>none
  | _,_=>none
 | _,_,_=>none
theorem Ip {K K':Kd} {y:K'.T} {x:(Kd.list K).T} (h:asK (.list K) (.k K' y)=some x):∃e:K' = .list K,e ▸ y=x:=by
 have h:(if e:K' = .list K then some (e ▸ y) else none)=some x:=h;split at h
 ·rename_i e;injection h with h;exact⟨e,h⟩
 ·cases h
def lQ (ok:Nat->Prop) (w:World) (K:Kd) (xs:List K.T) (css:List (List Value)):Prop:=css.length=xs.length/\∀(i:Nat) (x:K.T) (c:List Value),xs[i]? = some x->css[i]? = some c->bj ok w K x c
theorem lQ.append {ok:Nat->Prop} {w:World} {K:Kd} {xs ys:List K.T} {a b:List (List Value)} (h:lQ ok w K xs a) (k:lQ ok w K ys b):lQ ok w K (List.append xs ys) (a++b):=by
 have e:List.append xs ys=xs++ys:=rfl;rw[e];refine⟨by rw[c6,c6,h.1,k.1],λi x c hx hc=>?_⟩;rcases aV i xs.length with hi | hi
 ·rw[iR hi] at hx;rw[iR (by rw[h.1];exact hi)] at hc;exact h.2 i x c hx hc
 ·rw[pq hi] at hx;rw[pq (by rw[h.1];exact hi),h.1] at hc;exact k.2 _ x c hx hc
theorem lQ.ak {ok ok':Nat->Prop} {w w':World} {K:Kd} {xs:List K.T} {css:List (List Value)} (h:lQ ok w K xs css) (k:Kp ok w w') (ho:∀i,i<w.heap.size->ok i->ok' i):lQ ok' w' K xs css:=⟨h.1,λi x c hx hc=>(h.2 i x c hx hc).ak k ho⟩
theorem lQ.sz {ok:Nat->Prop} {w:World} {K:Kd} {xs:List K.T} {css:List (List Value)} (h:lQ ok w K xs css):∀c∈css,c.length=K.sz:=rA h.1 h.2
theorem lQ.flat {ok:Nat->Prop} {w:World} {K:Kd} {xs:List K.T} {css:List (List Value)} (h:lQ ok w K xs css):css.flatten.length=xs.length*K.sz:=by have:=kE (k:=css.length) h.sz (bX _);rw[qY] at this;rw[this,h.1]
theorem lQ.nn {ok:Nat->Prop} {w:World} {K:Kd} {xs:List K.T} {css:List (List Value)} (h:lQ ok w K xs css) {v:Value} (hv:v∈css.flatten):∃(x:K.T) (c:List Value),bj ok w K x c/\v∈c:=by
 obtain⟨c,hc,hv⟩:=Hn.1 hv;obtain⟨i,hi⟩:=yV.1 hc;have aU:i<xs.length:=by
  rw[<-h.1];rcases aV i css.length with h' | h'
  ·exact h'
  ·rw[iQ h'] at hi;cases hi
 exact⟨_,c,h.2 i _ c (bF aU) hi,hv⟩
def lR (w:World) (css:List (List Value)) (n:Nat) (v:Value):Prop:=∃A c,v = .slice A n c/\n<=c/\(n≠0->∃g off,A=some ⟨g,off,none⟩/\fF w g off css.flatten)
theorem s8 {ok:Nat->Prop} {w:World} {K:Kd} {xs:List K.T} {c:List Value} (h:bj ok w (.list K) xs c):xs.length<=vM K/\∃css v,c=[v]/\lQ ok w K xs css/\lR w css xs.length v:=by
 obtain⟨A,cp,rfl,h1,h2,h3⟩:=h;refine⟨h2,?_⟩;rcases gA xs.length with h0 | h0
 ·have:xs=[]:=iP h0;subst this;exact⟨[],_,rfl,⟨rfl,λi x c hx=>by simp at hx⟩,A,cp,rfl,h1,λh=>absurd rfl h⟩
 ·obtain⟨g,off,css,rfl,a2,a3,a4,a5,a6⟩:=h3 (λe=>by rw[e] at h0;simp at h0);exact⟨css,_,rfl,⟨a5,a6⟩,_,cp,rfl,h1,λ_=>⟨g,off,rfl,a4⟩⟩
theorem wj {ok:Nat->Prop} {w:World} {b:Option (Nat×Nat×Nat)} {e:TypeId} {K:Kd} {xs:List K.T} (h:aS ok w b e K xs):xs.length<=aB/\∃css,lQ ok w K xs css/\lR w css xs.length (slV b):=by
 cases b with
 | none=>have h:xs=[]:=h;subst h;exact⟨ia _,[],⟨rfl,λi x c hx=>by simp at hx⟩,none,0,rfl,bX _,λh=>absurd rfl h⟩
 | some gc=>obtain⟨css,sp,h1,h2,h3,h4,h5,h6,h7⟩:=h;exact⟨h7,css,⟨h2,h3⟩,_,gc.2.1,by rw[<-h5];rfl,h6,λ_=>⟨gc.1,0,rfl,λi hi=>by rw[kJ,h1.cell,iR hi]⟩⟩
theorem vf {P:Program} {w:World} {t2 e2:TypeId} {css:List (List Value)} {n sz:Nat} {v:Value} (hu:P.underlying t2=some (.slice e2)) (hl:css.flatten.length=n*sz) (h1:∀u∈css.flatten,u.oneCell'=true) (h:lR w css n v):Src P sz t2 v n css.flatten w:=by
 obtain⟨A,c,rfl,hc,hh⟩:=h;rcases gA n with h0 | h0
 ·subst h0;have dZ:css.flatten=[]:=iP (by simpa using hl);rw[dZ]
  cases A with
  | none=>exact Src.ofNil w hu c
  | some ad=>exact Src.ofSlice w hu ad 0 c [] (by simp) (λj u hj=>by simp at hj) (λu hu=>by cases hu)
 ·obtain⟨g,off,rfl,aNQ⟩:=hh (by omega);refine Src.ofSlice w hu ⟨g,off,none⟩ n c _ hl (λj u hj=>?_) h1;have aU:j<css.flatten.length:=by
   rcases aV j css.flatten.length with h' | h'
   ·exact h'
   ·rw[iQ h'] at hj;cases hj
  rw[Addr.add_lit,aNQ j aU,hj]
theorem zg {z:Array Value} (h:∀v∈z.toList,bf v=true) (hz:0<z.size) (n:Nat):∀v∈(Builtin.zeroCells z n).toList,bf v=true:=by intro v hv;unfold Builtin.zeroCells at hv;rw[Array.toList_map,G3] at hv;obtain⟨i,_,rfl⟩:=hv;rw[getElem!_pos z (i%z.size) (pv _ hz)];exact h _ (by simp)
theorem mC {z:Array Value} {n:Nat}:(Builtin.zeroCells z n).size=n*z.size:=by simp[Builtin.zeroCells]
section
variable {C:bO} {F B0:Nat->Prop} {w0 w:World} {β:Bm} {s:St} {a:Act} {n:Nat} {o:Oper}
theorem A3 (M:Mem C.Tb F B0 w0 β s.H w) {K:Kd} {v:AV} {u:Value} {ys:List K.T} (h:a4K s.H K v=some ys) (hv:aq (Ok F w0 β s.H) w β v u):ys.length<=vM K/\∃css,lQ (Ok F w0 β s.H) w K ys css/\lR w css ys.length u:=by
 have gen:∀{v:AV},asK (.list K) v=some ys->v.row=false->aq (Ok F w0 β s.H) w β v u->ys.length<=vM K/\∃css,lQ (Ok F w0 β s.H) w K ys css/\lR w css ys.length u:=by intro v h gK hv;obtain⟨c,hc,he⟩:=hv;obtain⟨h1,css,u',rfl,h2,h3⟩:=s8 (rG h hc);rw[gK] at he;have he:u=u':=he;subst he;exact⟨h1,css,h2,h3⟩
 unfold a4K at h;split at h
 ·rename_i id sz;split at h
  ·rename_i e K' ys' hH;have hm:=M.dD id _ hH;obtain⟨eK,hxx⟩:=Ip h;injection eK with eK
   subst eK;have hxx:ys'=ys:=hxx;subst hxx;obtain⟨h1,css,h2,h3⟩:=wj hm;obtain⟨c,hc,he⟩:=hv;have hc:c=[slV (β id 0)]:=hc;subst hc;have he:u=slV (β id 0):=he;subst he;exact⟨j3 h1 (sR _),css,h2,h3⟩
  ·cases h
 ·rename_i K' y;refine gen h ?_ hv;obtain⟨eK,_⟩:=Ip h;subst eK;rfl
 ·exact gen h rfl hv
 ·injection h with h;subst h;obtain⟨c,hc,he⟩:=hv;have hc:c=[.slice none 0 0]:=hc;subst hc;exact⟨ia _,[],⟨rfl,λi x c hx=>by simp at hx⟩,none,0,he,bX _,λh=>absurd rfl h⟩
 ·cases h
theorem mD (hT:dI C.Tb) (S:bo C F B0 w0 n β s a w) (hd:∀d,o.dst=some d->d<n) {t t2 e e2:TypeId} {K:Kd} {c:Call} {x y:Operand} {base:Option Addr} {sc d:Nat} {xs ys:List K.T} {cx cy:List (List Value)} {vy:Value}
  (ho:o.op = .call c) (hb:c.callee = .builtin .append) (ht:c.argTypes.toList=[t,t2]) (ha:c.args.toList=[x,y]) (hK:nj C t=some (e,K)) (jg:C.P.underlying t2=some (.slice e2))
  (hx:a.eval x = .slice base xs.length sc) (gH:lR w cx xs.length (.slice base xs.length sc)) (hex:lQ (Ok F w0 β s.H) w K xs cx) (hy:a.eval y=vy) (jN:lQ (Ok F w0 β s.H) w K ys cy) (lA:lR w cy ys.length vy)
  (dO:sc<xs.length+ys.length) (fT:xs.length+ys.length<=aB):oC C F B0 w0 w n a o (jB d o.dst (.arr e K (List.append xs ys)) (.own d 0 K.sz) s):=by
 obtain⟨hu,inf,z,hi,hz,br,ke,s7,A0,cT,h0⟩:=ij hK
 have gW:c.args = #[x,y]:=by apply tP;exact ha
 have mA:c.argTypes = #[t,t2]:=by apply tP;exact ht
 have Iq:∀u∈cy.flatten,u.oneCell'=true:=λu hu=>by obtain⟨x,c,h1,h2⟩:=jN.nn hu;exact h1.one u h2
 have mE:Src C.P inf.size t2 vy ys.length cy.flatten w:=by rw[br];exact vf jg jN.flat Iq lA
 have hold:(Builtin.firstCells inf.size xs.length (.slice base xs.length sc)).run C.P w.drew = .ok cx.flatten.toArray w.drew:=by
  obtain⟨A,cp,he,hc,hh⟩:=gH;injection he with e1 _ _
  subst e1;rcases gA xs.length with vT | vT
  ·have dZ:cx.flatten=[]:=iP (by rw[hex.flat,vT,xY]);rw[dZ,vT]
   cases base with
   | none=>exact run_firstCells_none w.drew _ _ _ _
   | some ad=>exact run_firstCells_some w.drew inf.size 0 ad _ _ [] (by simp) (λj v hj=>by simp at hj)
  ·obtain⟨g,off,rfl,aNQ⟩:=hh (by omega);refine run_firstCells_some w.drew inf.size xs.length ⟨g,off,none⟩ _ _ cx.flatten (by rw[hex.flat,br]) λj v hj=>?_;have aU:j<cx.flatten.length:=by
    rcases aV j cx.flatten.length with h' | h'
    ·exact h'
    ·rw[iQ h'] at hj;cases hj
   have h2:w.drew.cell? ⟨g,off+j,none⟩=w.cell? ⟨g,off+j,none⟩:=rfl;rw[Addr.add_lit,h2,aNQ j aU,hj]
 have lH:Builtin.nextslicecap (xs.length+ys.length) sc*inf.bytes<=281474976710656:=growslice_fits dO (by
  unfold aB at fT;calc (xs.length+ys.length)*inf.bytes<=1099511627776*128:=x6 fT ke
   _<=140737488355328:=by decide)
 have hr:=run_append_grow_src (P:=C.P) w t t2 o.type e inf z hu hi hz base xs.length sc cx.flatten hold vy ys.length cy.flatten mE dO (by unfold aB at fT;omega) lH
 have iU:=grownCap_ge w (xs.length+ys.length) sc e
 generalize grownCap w (xs.length+ys.length) sc e=eV at hr iU
 have e1:(cx.flatten++cy.flatten).toArray++Builtin.zeroCells z.cells (eV-(xs.length+ys.length))=((cx++cy).flatten++(Builtin.zeroCells z.cells (eV-(xs.length+ys.length))).toList).toArray:=by apply tP;simp
 have dm:ar (w.drew.alloc (.cells ((cx.flatten++cy.flatten).toArray++Builtin.zeroCells z.cells (eV-(xs.length+ys.length))) e)) w.heap.size e ((cx++cy).flatten++(Builtin.zeroCells z.cells (eV-(xs.length+ys.length))).toList):=by rw[e1];exact ar.new w.drew e _
 have DU:=hex.append jN
 have rI:∀v∈(cx++cy).flatten++(Builtin.zeroCells z.cells (eV-(xs.length+ys.length))).toList,bf v=true:=by
  intro v hv;rcases x9.1 hv with hv | hv
  ·obtain⟨x,c,h1,h2⟩:=DU.nn hv;exact h1.kV cT v h2
  ·exact zg A0 (by omega) _ v hv
 refine cO (v:=.slice (some ⟨w.heap.size,0,none⟩) (xs.length+ys.length) eV) (w':=w.drew.alloc (.cells ((cx.flatten++cy.flatten).toArray++Builtin.zeroCells z.cells (eV-(xs.length+ys.length))) e)) ?_ ⟨⟨cW β d (some (w.heap.size,eV,xs.length+ys.length)),?_⟩,by show(w.drew.heap.push _).size=_;rw[GX];rfl⟩
 ·unfold execOp
  simp[ho,resolve,hb,gW,mA,invoke,builtin,hx,hy,hr]
 ·refine rH hT S hd (ob:=.arr e K (List.append xs ys)) rfl ((Ext.refl w).drew.alloc _) (bX _) (show w.heap.size<(w.drew.heap.push _).size by rw[GX];exact yi _) (λj v hv=>by
   rw[dm.cell] at hv;exact rI v (uy hv)) (λok' dC=>?_) λok'=>AW
  show aS ok' _ (cW β d (some (w.heap.size,eV,xs.length+ys.length)) d 0) e K _
  rw[cC]
  have lO:=DU.ak (Kp.aO ((Ext.refl w).drew.alloc (.cells ((cx.flatten++cy.flatten).toArray++Builtin.zeroCells z.cells (eV-(xs.length+ys.length))) e))) dC
  have hlen:(List.append xs ys).length=xs.length+ys.length:=c6
  refine⟨cx++cy,_,dm,lO.1,lO.2,?_,hlen.symm,by rw[hlen];exact iU,by rw[hlen];exact fT⟩
  have Oz:∀k,(Builtin.zeroCells z.cells k).toList.length=k*K.sz:=λk=>by rw[tL,mC,s7]
  rw[c6,DU.flat,hlen,Oz,<-nP]
  congr 1
  show xs.length+ys.length+(eV-(xs.length+ys.length))=eV
  omega
theorem DV (hT:dI C.Tb) (S:bo C F B0 w0 n β s a w) (hd:∀d,o.dst=some d->d<n) (hH:s.H=[]) {c:Call} {g:Option Prop} {s':St} (ho:o.op = .call c) (hb:c.callee = .builtin .append) (h:a00 C s o.dst c=some (g,s')):bt g->oC C F B0 w0 w n a o s':=by
 intro hg;unfold a00 at h;split at h
 ·rename_i t t2 x y d ht ha ib;split at h
  ·rename_i e K e2 hK jg;split at h
   ·rename_i ys hys;obtain⟨lS,cy,jN,lA⟩:=A3 S.mem hys (ew S.slot y);have hx:=ew S.slot x;split at h
    ·rename_i lP;rw[lP] at hx;injection h with h
     injection h with h1 h;subst h1;subst h;obtain⟨jE,lS⟩:0<ys.length/\ys.length<=aB:=hg;obtain⟨cx,ez,hxv⟩:=hx;have ez:cx=[.slice none 0 0]:=ez;subst ez;exact mD hT S hd (d:=d) (xs:=[]) (cx:=[]) ho hb ht ha hK jg hxv ⟨none,0,rfl,bX _,λh=>absurd rfl h⟩ ⟨rfl,λi x c hx=>by simp at hx⟩ rfl jN lA (by simpa using jE) (by simpa using lS)
    ·rename_i K' kg lP;rw[lP] at hx;split at h
     ·rename_i xs mg;injection h with h
      injection h with h1 h;subst h1;subst h;obtain⟨jE,fT⟩:0<ys.length/\List.length xs+List.length ys<=aB:=hg;obtain⟨c1,cU,hxv⟩:=hx;obtain⟨bU,cx,u,rfl,hex,gH⟩:=s8 (rG mg cU);obtain⟨⟨A,he⟩,_⟩:=cU;injection he with he;have hlen:kg.length=List.length xs:=by obtain⟨A',c',e3,_⟩:=gH;rw[he] at e3;injection e3
      have hxv:a.eval x=u:=hxv;rw[hlen] at he;rw[he] at hxv gH;exact mD hT S hd (d:=d) ho hb ht ha hK jg hxv gH hex rfl jN lA (by omega) fT
     ·cases h
    ·rw[hH] at h;cases h
    ·cases h
   ·cases h
  ·cases h
 ·cases h
theorem Ir (hT:dI C.Tb) (S:bo C F B0 w0 n β s a w) (hd:∀d,o.dst=some d->d<n) {c:Call} {g:Option Prop} {s':St} (ho:o.op = .call c) (hb:c.callee = .builtin .append) (h:a00 C s o.dst c=some (g,s')):bt g->pV C F B0 w0 w n a o s':=by
 intro hg;unfold a00 at h;split at h
 ·rename_i t t2 x y d ht ha ib;split at h
  ·rename_i e K e2 hK jg;split at h
   ·rename_i ys hys;obtain⟨lS,cy,jN,lA⟩:=A3 S.mem hys (ew S.slot y);have hx:=ew S.slot x;split at h
    ·rename_i lP;rw[lP] at hx;injection h with h
     injection h with h1 h;subst h1;subst h;obtain⟨jE,lS⟩:0<ys.length/\ys.length<=aB:=hg;obtain⟨cx,ez,hxv⟩:=hx;have ez:cx=[.slice none 0 0]:=ez;subst ez;have:=mD hT S hd (d:=d) (xs:=[]) (cx:=[]) ho hb ht ha hK jg hxv ⟨none,0,rfl,bX _,λh=>absurd rfl h⟩ ⟨rfl,λi x c hx=>by simp at hx⟩ rfl jN lA (by simpa using jE) (by simpa using lS);exact this.st
    ·rename_i K' kg lP;rw[lP] at hx;split at h
     ·rename_i xs mg;injection h with h
      injection h with h1 h;subst h1;subst h;obtain⟨jE,fT⟩:0<ys.length/\List.length xs+List.length ys<=aB:=hg;obtain⟨c1,cU,hxv⟩:=hx;obtain⟨bU,cx,u,rfl,hex,gH⟩:=s8 (rG mg cU);obtain⟨⟨A,he⟩,_⟩:=cU;injection he with he;have hlen:kg.length=List.length xs:=by obtain⟨A',c',e3,_⟩:=gH;rw[he] at e3;injection e3
      have hxv:a.eval x=u:=hxv;rw[hlen] at he;rw[he] at hxv gH;exact(mD hT S hd (d:=d) ho hb ht ha hK jg hxv gH hex rfl jN lA (by omega) fT).st
     ·cases h
    ·rename_i id sz lP;rw[lP] at hx;split at h
     ·rename_i e' K' kg hH
      cases Is:Nat.beq e' e with
      | false=>rw[Is] at h;cases h
      | true=>
       rw[Is,fh] at h;rw[pj] at Is;subst Is;split at h
       ·rename_i xs mg;injection h with h
        injection h with h1 h;subst h1;subst h;have fT:List.length xs+List.length ys<=aB:=hg;obtain⟨eK,hxx⟩:=Ip mg;injection eK with eK;subst eK;have hxx:kg=xs:=hxx;subst hxx;have hm:=S.mem.dD id _ hH;obtain⟨c1,cU,hxv⟩:=hx;have cU:c1=[slV (β id 0)]:=cU;subst cU;have hxv:a.eval x=slV (β id 0):=hxv;obtain⟨bU,cx,hex,gH⟩:=wj hm
        cases bN:β id 0 with
        | none=>
         rw[bN] at hxv gH;have hm:aS _ w (β id 0) e' K' kg:=hm;rw[bN] at hm;have hm:kg=[]:=hm;subst hm;rcases gA ys.length with jE | jE
         ·have:ys=[]:=iP jE;subst this;obtain⟨hu,inf,z,hi,hz,br,ke,s7,A0,cT,h0⟩:=ij hK;have gW:c.args = #[x,y]:=by apply tP;exact ha
          have mA:c.argTypes = #[t,t2]:=by apply tP;exact ht
          have adH:=lA;obtain⟨A,cc,he,_⟩:=adH;have mE:Src C.P inf.size t2 (a.eval y) 0 [] w:=by
           have Iq:∀u∈cy.flatten,u.oneCell'=true:=λu hu=>by obtain⟨x,c,h1,h2⟩:=jN.nn hu;exact h1.one u h2
           have:=vf (P:=C.P) (sz:=inf.size) jg (by rw[br];exact jN.flat) Iq lA;have dZ:cy.flatten=[]:=iP (by rw[jN.flat];simp);rw[dZ] at this;exact this
          have ec:(Builtin.append_ #[t,t2] o.type #[.slice none 0 0,a.eval y]).run C.P w = .ok (.slice none 0 0) w:=by rcases mE.kind with ⟨e',hk⟩ | hk<;>simp[Builtin.append_,run_underlying hu,run_underlying hk,sizeOf,typeInfo,hi,mE.len,mE.cells]
          refine cO (v:=.slice none 0 0) (w':=w) ?_ ⟨cW β id none,?_⟩
          ·unfold execOp;simp[ho,resolve,hb,gW,mA,invoke,builtin,hxv,slV,ec]
          ·obtain⟨M',hk,dC⟩:=S.mem.put hT (d:=id) (b:=none) (ob:=.arr e' K' (List.append [] [])) rfl S.mem.fr (bX _) (λg' x' pU=>by cases pU) (λi hi _=>rfl) λ_ _=>by
            show aS _ _ (cW β id none id 0) e' K' _;rw[cC];rfl
           exact⟨M',by rw[dF];exact S.size,by rw[cP];exact S.defs,dE (gF S.slot hk dC λaR ay=>fe ay) S.size hd ⟨[slV (cW β id none id 0)],rfl,by rw[cC];rfl⟩⟩
         ·exact(mD hT S hd (d:=id) (xs:=[]) ho hb ht ha hK jg hxv gH hex rfl jN lA (by simpa using jE) fT).st
        | some gc=>
         rw[bN] at hxv gH;obtain⟨g',Cp,ln⟩:=gc;have Ye:aS _ w (β id 0) e' K' kg:=hm;rw[bN] at Ye;obtain⟨css,sp,h1,h2,h3,h4,h5,h6,h7⟩:=Ye;have h5:ln=kg.length:=h5;subst h5;rcases aV Cp (kg.length+ys.length) with dO | dO
         ·exact(mD hT S hd (d:=id) ho hb ht ha hK jg hxv gH hex rfl jN lA dO fT).st
         ·obtain⟨hu,inf,z,hi,hz,br,ke,s7,A0,cT,h0⟩:=ij hK;have gW:c.args = #[x,y]:=by apply tP;exact ha
          have mA:c.argTypes = #[t,t2]:=by apply tP;exact ht
          have Iq:∀u∈cy.flatten,u.oneCell'=true:=λu hu=>by obtain⟨x,c,h1,h2⟩:=jN.nn hu;exact h1.one u h2
          have mE:Src C.P inf.size t2 (a.eval y) ys.length cy.flatten w:=by rw[br];exact vf jg jN.flat Iq lA
          have DW:lQ (Ok F w0 β s.H) w K' kg css:=⟨h2,h3⟩
          have fQ:=DW.flat;have h4:(css.flatten++sp).length=Cp*K'.sz:=h4;have SY:cy.flatten.length<=sp.length:=by rw[c6,fQ] at h4;rw[jN.flat];have h8:(kg.length+ys.length)*K'.sz<=Cp*K'.sz:=cM _ dO;rw[nP] at h8;omega
          have ec:=run_append_room_src (P:=C.P) w t t2 o.type e' inf hu hi g' 0 kg.length Cp (a.eval y) ys.length cy.flatten mE dO (λj hj=>by rw[kJ,br,h1.cell,<-fQ,pq (by omega),yX,bF (by omega)];rfl) (λj hj=>h1.frozen _)
          have cD:aPR (css.flatten++sp) (0+kg.length*inf.size) cy.flatten=(css++cy).flatten++sp.drop cy.flatten.length:=by have h8:=kD cy.flatten css.flatten (sp.take cy.flatten.length) (sp.drop cy.flatten.length) (by rw[iY];omega);rw[uX] at h8;rw[kJ,br,<-fQ,h8];simp
          have dm:=jf (vs:=cy.flatten) (o:=0+kg.length*inf.size) h1;rw[cD] at dm;have hlen:(List.append kg ys).length=kg.length+ys.length:=c6;have YA:∀v∈(css++cy).flatten++sp.drop cy.flatten.length,bf v=true:=by
           intro v hv;rcases x9.1 hv with hv | hv
           ·obtain⟨x,c,h8,h9⟩:=(DW.append jN).nn hv;exact h8.kV cT v h9
           ·exact jD S.mem hH Nat.one_pos bN h1 v (C5 _ (EN hv))
          have iT:=(S.mem.own g' (S.mem.ob hH Nat.one_pos bN)).1;refine cO (v:=.slice (some ⟨g',0,none⟩) (kg.length+ys.length) Cp) (w':=w.setCells g' (0+kg.length*inf.size) cy.flatten) ?_ ⟨cW β id (some (g',Cp,kg.length+ys.length)),?_⟩
          ·unfold execOp;simp[ho,resolve,hb,gW,mA,invoke,builtin,hxv,slV];simp at ec;simp[ec]
          ·obtain⟨M',hk,dC⟩:=S.mem.put hT (d:=id) (b:=some (g',Cp,kg.length+ys.length)) (ob:=.arr e' K' (List.append kg ys)) (w':=w.setCells g' (0+kg.length*inf.size) cy.flatten) rfl (pE S.mem.fr iT) (by rw[bM];exact bX _) (λg2 x2 fP=>by
             injection fP with fP;injection fP with fP _;subst fP;refine⟨.inr ⟨_,_,hH,Nat.one_pos,bN⟩,by rw[bM];exact h1.lt,λj v hv=>?_⟩;rw[dm.cell] at hv;exact YA v (uy hv)) (λi hi hn=>gm hi λe=>by subst e;exact hn _ rfl) λhk dC=>by
            show aS _ _ (cW β id (some (g',Cp,kg.length+ys.length)) id 0) e' K' _
            rw[cC]
            have lO:=(DW.append jN).ak hk dC
            refine⟨css++cy,_,dm,lO.1,lO.2,?_,hlen.symm,by rw[hlen];exact dO,by rw[hlen];exact fT⟩
            rw[<-cD,j8,h4]
           exact⟨M',by rw[dF];exact S.size,by rw[cP];exact S.defs,dE (gF S.slot hk dC λaR ay=>fe ay) S.size hd AW⟩
       ·cases h
     ·cases h
    ·cases h
   ·cases h
  ·cases h
 ·cases h
end
def qD:Ob->Bool
 | .arr _ _ _=>true
 | .bc _ _ _ _ _=>true
 | _=>false
def iH (d:Nat):AV->AV
 | .own 0 r sz=>.own d r sz
 | .own _ _ _=>.no
 | .dT _ _ _ _ _=>.no
 | .pt _ _ _ _ _=>.no
 | .fn f c=>.fn f (iH d c)
 | .cons a b=>.cons (iH d a) (iH d b)
 | .agg fs=>.agg (iH d fs)
 | .eX rs=>.eX (iH d rs)
 | v=>v
def vg:Ob->Bool
 | .arr _ K _=>K.flat
 | .bc _ _ K _ _=>K.flat
 | _=>false
def AV.lT:AV->Bool
 | .own _ _ _=>true
 | .k K _=>K.flat
 | .dv | .nil | .ud=>true
 | .cons a b=>a.lT&&b.lT
 | .agg fs=>fs.lT
 | .eX rs=>rs.lT
 | _=>false
def a41 (C:bO) (s:St) (dst:Option Tmp) (c:Call):SR:=match dst,callee s.m c with
 | some d,some (f,args)=>match a2t C.L f,a3f s.H args with
  | some ct,some jL=>match ct.c jL with
   | some (g,r,[ob])=>bif qD ob&&((ct.fresh || !(args.any AV.owns))||(vg ob&&r.lT)) then some (g,jB d dst ob (iH d r) s) else none
   | _=>none
  | _,_=>none
 | _,_=>none
def ff (β:Bm) (d:Nat) (b:Nat->Option (Nat×Nat×Nat)):Bm:=λid=>if id=d then b else β id
theorem fM {β:Bm} {d:Nat} {b:Nat->Option (Nat×Nat×Nat)}:ff β d b d=b:=by simp[ff]
theorem mF {β:Bm} {d id:Nat} {b:Nat->Option (Nat×Nat×Nat)} (h:id≠d):ff β d b id=β id:=by simp[ff,h]
theorem YB {ok ok':Nat->Prop} {w:World} {β β':Bm} {d:Nat} (e:β' d=β 0) (ho:∀i,i<w.heap.size->ok i->ok' i):∀{av:AV} {md:Bool} {cs:List Value},Rel ok w β av md cs->Rel ok' w β' (iH d av) md cs/\(iH d av).row=av.row:=by
 have kk:Kp ok w w:=Kp.aO (Ext.refl w);intro av;induction av with
 | own id r sz=>
  intro md cs h;have h:cs=[slV (β id r)]:=h
  cases id with
  | zero=>exact⟨by show cs=[slV (β' d r)];rw[e];exact h,rfl⟩
  | succ=>exact⟨⟨_,h⟩,rfl⟩
 | dT id r sz off len=>
  intro md cs h;unfold Rel at h;rcases h with ⟨_,A,c,h⟩ | ⟨g,C,n,_,_,h⟩
  ·exact⟨⟨_,h⟩,rfl⟩
  ·exact⟨⟨_,h⟩,rfl⟩
 | pt id r sz i off=>intro md cs h;obtain⟨_,_,_,_,h⟩:=h;exact⟨⟨_,h⟩,rfl⟩
 | fn f c ih=>intro md cs h;obtain⟨vs,h1,h2⟩:=h;exact⟨⟨vs,h1,(ih h2).1⟩,rfl⟩
 | cons a b qu qw=>intro md cs h;obtain⟨c,d',h1,h2,h3⟩:=h;obtain⟨h4,h5⟩:=qu h1;exact⟨⟨c,d',h4,(qw h2).1,by rw[h5];exact h3⟩,rfl⟩
 | agg fs ih=>intro md cs h;exact⟨(ih (md:=false) h).1,rfl⟩
 | eX rs ih=>intro md cs h;obtain⟨vs,h1,h2⟩:=h;exact⟨⟨vs,h1,(ih h2).1⟩,rfl⟩
 | k K x=>intro md cs h;exact⟨bj.ak kk ho h,rfl⟩
 | cp K xs=>intro md cs h;exact⟨⟨h.1,bj.ak kk ho h.2⟩,rfl⟩
 | pk K x=>intro md cs h;obtain⟨g,off,c,h1,h2,h3,h4,h5⟩:=h;exact⟨⟨g,off,c,h1,h2.imp (ho g h3) id,h3,h4.ak kk ho,h5⟩,rfl⟩
 | dv=>intro md cs h;exact⟨h,rfl⟩
 | nil=>intro md cs h;exact⟨h,rfl⟩
 | ud=>intro md cs h;exact⟨h,rfl⟩
 | no=>intro md cs h;exact⟨h,rfl⟩
theorem cI.iH {ok ok':Nat->Prop} {w:World} {β β':Bm} {id d:Nat} {ob:Ob} (hp:qD ob=true) (h:cI ok w β id ob) (e:β' d=β id) (ho:∀i,i<w.heap.size->ok i->ok' i):cI ok' w β' d ob:=by
 have kk:Kp ok w w:=Kp.aO (Ext.refl w)
 cases ob with
 | arr t K xs=>show aS ok' w (β' d 0) t K xs;rw[e];exact aS.ak h kk ho λ_ _ _=>rfl
 | bc o t K out ai=>
  obtain⟨h0,h7,h8⟩:=h;refine⟨h0.imp (λ⟨a,b⟩=>⟨by rw[e];exact a,b⟩) λ⟨g,Cx,cs,sp,h1,h2,h3,h4,h5,h6⟩=>⟨g,Cx,cs,sp,by rw[e];exact h1,h2,h3,h4,h5,λi p hp=>by obtain⟨a,v,b,c⟩:=h6 i p hp;exact⟨a,v,b,by unfold Rel at c ⊢;rw[e];exact c⟩⟩,λp row hp=>?_,λp hp=>by rw[e];exact h8 p hp⟩
  ·rw[e];exact(h7 p row hp).ak kk ho λ_ _ _=>rfl
 | _=>cases hp
theorem aS.TA {ok ok':Nat->Prop} {w:World} {b:Option (Nat×Nat×Nat)} {e:TypeId} {K:Kd} {xs:List K.T} (hf:K.flat=true) (h:aS ok w b e K xs):aS ok' w b e K xs:=by
 unfold aS at h ⊢;split at h
 ·exact h
 ·obtain⟨css,sp,h1,h2,h3,h4⟩:=h;exact⟨css,sp,h1,h2,λi x c hx hc=>(h3 i x c hx hc).flat hf,h4⟩
theorem cI.adI {ok ok':Nat->Prop} {w:World} {β β':Bm} {id d:Nat} {ob:Ob} (hp:vg ob=true) (h:cI ok w β id ob) (e:β' d=β id):cI ok' w β' d ob:=by
 cases ob with
 | arr t K xs=>show aS ok' w (β' d 0) t K xs;rw[e];exact aS.TA hp h
 | bc o t K out ai=>
  obtain⟨h0,h7,h8⟩:=h;refine⟨h0.imp (λ⟨a,b⟩=>⟨by rw[e];exact a,b⟩) λ⟨g,Cx,cs,sp,h1,h2,h3,h4,h5,h6⟩=>⟨g,Cx,cs,sp,by rw[e];exact h1,h2,h3,h4,h5,λi p hp=>by obtain⟨a,v,b,c⟩:=h6 i p hp;exact⟨a,v,b,by unfold Rel at c ⊢;rw[e];exact c⟩⟩,λp row hp'=>?_,λp hp=>by rw[e];exact h8 p hp⟩
  ·rw[e];exact(h7 p row hp').TA hp
 | _=>cases hp
theorem a78 {ok ok':Nat->Prop} {w:World} {β β':Bm} {d:Nat} (e:β' d=β 0):∀{av:AV} {md:Bool} {cs:List Value},av.lT=true->Rel ok w β av md cs->Rel ok' w β' (iH d av) md cs/\(iH d av).row=av.row:=by
 intro av;induction av with
 | own id r sz=>
  intro md cs _ h;have h:cs=[slV (β id r)]:=h
  cases id with
  | zero=>exact⟨by show cs=[slV (β' d r)];rw[e];exact h,rfl⟩
  | succ=>exact⟨⟨_,h⟩,rfl⟩
 | cons a b qu qw=>intro md cs hf h;have hf:(a.lT&&b.lT)=true:=hf;rw[aI] at hf;obtain⟨c,d',h1,h2,h3⟩:=h;obtain⟨h4,h5⟩:=qu hf.1 h1;exact⟨⟨c,d',h4,(qw hf.2 h2).1,by rw[h5];exact h3⟩,rfl⟩
 | agg fs ih=>intro md cs hf h;exact⟨(ih (md:=false) hf h).1,rfl⟩
 | eX rs ih=>intro md cs hf h;obtain⟨vs,h1,h2⟩:=h;exact⟨⟨vs,h1,(ih hf h2).1⟩,rfl⟩
 | k K x=>intro md cs hf h;exact⟨bj.flat (K:=K) hf h,rfl⟩
 | dv=>intro md cs _ h;exact⟨h,rfl⟩
 | nil=>intro md cs _ h;exact⟨h,rfl⟩
 | ud=>intro md cs _ h;exact⟨h,rfl⟩
 | _=>intro md cs hf h;cases hf
section
variable {Tb:World->Prop} {F B0:Nat->Prop} {w0 w w':World} {β:Bm} {H:Hp}
theorem Mem.aar (hT:dI Tb) (M:Mem Tb F B0 w0 β H w) (e:Ext w w') {d:Nat} {b:Nat->Option (Nat×Nat×Nat)} {ob:Ob}
  (hb:∀r g x,r<ob.bZ->b r=some (g,x)->w.heap.size<=g/\g<w'.heap.size/\∀j v,w'.cell? ⟨g,j,none⟩=some v->bf v=true)
  (adJ:∀r r' g x x',r<ob.bZ->b r=some (g,x)->r'<ob.bZ->b r'=some (g,x')->r=r')
  (hob:(∀i,w.heap.size<=i->(∀r x,r<ob.bZ->b r≠some (i,x))->Ok F w0 (ff β d b) ((d,ob)::aT d H) i)->(∀i,i<w.heap.size->Ok F w0 β H i->Ok F w0 (ff β d b) ((d,ob)::aT d H) i)->cI (Ok F w0 (ff β d b) ((d,ob)::aT d H)) w' (ff β d b) d ob) :
  Mem Tb F B0 w0 (ff β d b) ((d,ob)::aT d H) w'/\(∀i,i<w.heap.size->Ok F w0 β H i->Ok F w0 (ff β d b) ((d,ob)::aT d H) i)/\(∀i,w.heap.size<=i->(∀r x,r<ob.bZ->b r≠some (i,x))->Ok F w0 (ff β d b) ((d,ob)::aT d H) i):=by
 have split:∀{id r g:Nat} {x:Nat×Nat} {aQ:Ob},lkH ((d,ob)::aT d H) id=some aQ->r<aQ.bZ->ff β d b id r=some (g,x)->(id=d/\r<ob.bZ/\b r=some (g,x))\/(id≠d/\∃bC,lkH H id=some bC/\r<bC.bZ/\β id r=some (g,x)):=by
  intro id r g x aQ h1 h2 h3;by_cases e:id=d
  ·subst e;rw[aF] at h1;injection h1 with h1
   subst h1;rw[fM] at h3;exact .inl ⟨rfl,h2,h3⟩
  ·rw[aW e,cr] at h1;rw[mF e] at h3;obtain⟨bC,h4,h5⟩:=ja.1 h1
   cases hu:bC.atz d with
   | true=>rw[hu] at h5;subst h5;exact absurd h2 (nc _)
   | false=>rw[hu] at h5;subst h5;exact .inr ⟨e,bC,h4,h2,h3⟩
 have ho:∀i,i<w.heap.size->Ok F w0 β H i->Ok F w0 (ff β d b) ((d,ob)::aT d H) i:=λi hi h=>⟨h.1,λhO=>by
  obtain⟨id,r,x,aQ,h1,h2,h3⟩:=hO;rcases split h1 h2 h3 with ⟨_,h4,h5⟩ | ⟨_,bC,h4,h5,h6⟩
  ·have:=(hb r i x h4 h5).1;omega
  ·exact h.2 ⟨id,r,x,bC,h4,h5,h6⟩⟩
 have hn:∀i,w.heap.size<=i->(∀r x,r<ob.bZ->b r≠some (i,x))->Ok F w0 (ff β d b) ((d,ob)::aT d H) i:=λi hi ay=>⟨.inr (j3 M.fr.size hi),λhO=>by
  obtain⟨id,r,x,aQ,h1,h2,h3⟩:=hO;rcases split h1 h2 h3 with ⟨_,h4,h5⟩ | ⟨_,bC,h4,h5,h6⟩
  ·exact ay r x h4 h5
  ·have:=(M.own i ⟨id,r,x,bC,h4,h5,h6⟩).2.1;omega⟩
 refine⟨⟨M.fr.trans (.aO e),λg hg=>?_,λid r aR r' aQ bC g x x' h1 h2 h3 h4 h5 h6=>?_,λid aQ h1=>?_,(M.ext hT e).tb⟩,ho,hn⟩
 ·obtain⟨id,r,x,aQ,h1,h2,h3⟩:=hg
  rcases split h1 h2 h3 with ⟨_,h4,h5⟩ | ⟨_,bC,h4,h5,h6⟩
  ·obtain⟨h7,h8,h9⟩:=hb r g x h4 h5
   exact⟨.inr (j3 M.fr.size h7),h8,h9⟩
  ·exact(M.ext hT e).own g ⟨id,r,x,bC,h4,h5,h6⟩
 ·rcases split h1 h2 h3 with ⟨e1,a1,a2⟩ | ⟨n1,o1,a1,a2,a3⟩
  ·rcases split h4 h5 h6 with ⟨e2,c1,c2⟩ | ⟨n2,o2,c1,c2,c3⟩
   ·exact⟨e1.trans e2.symm,adJ r r' g x x' a1 a2 c1 c2⟩
   ·have:=(M.own g ⟨aR,r',x',o2,c1,c2,c3⟩).2.1
    have:=(hb r g x a1 a2).1
    omega
  ·rcases split h4 h5 h6 with ⟨e2,c1,c2⟩ | ⟨n2,o2,c1,c2,c3⟩
   ·have:=(M.own g ⟨id,r,x,o1,a1,a2,a3⟩).2.1
    have:=(hb r' g x' c1 c2).1
    omega
   ·exact M.inj _ _ _ _ _ _ _ _ _ a1 a2 a3 c1 c2 c3
 ·by_cases ed:id=d
  ·subst ed
   rw[aF] at h1
   injection h1 with h1
   subst h1
   exact hob hn ho
  ·rw[aW ed,cr] at h1
   obtain⟨bC,h4,h5⟩:=ja.1 h1
   cases hu:bC.atz d with
   | true=>rw[hu] at h5;subst h5;trivial
   | false=>
    rw[hu] at h5
    subst h5
    refine(M.dD id _ h4).ak (Kp.aO e) ho (mF ed) (λd' nX=>mF λe'=>by rw[e'] at nX;rw[hu] at nX;cases nX) λr g x hr bN=>e.block g (M.own g ⟨id,r,x,_,h4,hr,bN⟩).2.1
end
section
variable {C:bO} {F B0:Nat->Prop} {w0 w:World} {β:Bm} {s:St} {a:Act} {n:Nat} {o:Oper}
theorem OE (hT:dI C.Tb) (hC:nW C) (S:bo C F B0 w0 n β s a w) (hd:∀d,o.dst=some d->d<n) {c:Call} {g:Option Prop} {s':St} (ho:o.op = .call c) (h:a41 C s o.dst c=some (g,s')):bt g->pV C F B0 w0 w n a o s':=by
 unfold a41 at h;split at h
 ·rename_i d f args ib DO;obtain⟨vs,mB,ec⟩:=qz (o:=o) (ρ:=a.eval) ho (λx _=>ew S.slot x) DO;split at h
  ·rename_i ct jL vX vY;obtain⟨DP,rfl⟩:=aXy vX;have ok:=hC.c ct DP;split at h
   ·rename_i g' r ob hc
    cases hb:(qD ob&&((ct.fresh || !(args.any AV.owns))||(vg ob&&r.lT))) with
    | false=>rw[hb] at h;cases h
    | true=>
     rw[hb,fh] at h;injection h with h;injection h with h1 h
     subst h1;subst h;intro hg;rw[aI] at hb;obtain⟨hob,hb⟩:=hb;have hF:∃F1:Nat->Prop,VL F1 w AM.dX jL vs/\(args.any AV.owns=false->∀i,F1 i->Ok F w0 β s.H i):=by
      cases ha:args.any AV.owns with
      | false=>exact⟨Ok F w0 β s.H,oB S.mem (λ_ h=>h) vY (λid g e=>by rw[sX id ha] at e;cases e) mB,λ_ _ h=>h⟩
      | true=>exact⟨λi=>Ok F w0 β s.H i\/OB β s.H i,oB S.mem (λ_ h=>.inl h) vY (λ_ g _ h=>.inr h.ob) mB,λe=>by cases e⟩
     obtain⟨F1,fj,jv⟩:=hF;refine sS ((ec _ _).trans (ok.mu _ _)) ((ok.ok _ _ _ _ hc hg F1 w vs (S.mem.tbw hT) fj).mono ?_);rintro e w' ⟨u, β',rfl,M',hu⟩;have gO:=M'.fr.ext;have OF:lkH (eg 0 [ob]) 0=some ob:=rfl;have iF:(ct.fresh || !(args.any AV.owns))=true->∀{YC:Nat->Prop},(∀i,w.heap.size<=i->(∀r x,r<ob.bZ->β' 0 r≠some (i,x))->YC i)->(∀i,i<w.heap.size->Ok F w0 β s.H i->YC i)->∀i,Ok (λi=>ct.fresh=false/\F1 i) w β' (eg 0 [ob]) i->YC i:=by
      intro hb YC h1 h2 i hi;rcases aV i w.heap.size with h' | h'
      ·rcases hi.1 with ⟨jM,hi⟩ | hi
       ·rw[jM] at hb;exact h2 i h' (jv (by simpa using hb) i hi)
       ·omega
      ·exact h1 i h' λr x hr e=>hi.2 ⟨0,r,x,ob,OF,hr,e⟩
     obtain⟨M2,h2,h3⟩:=S.mem.aar hT gO (d:=d) (b:= β' 0) (ob:=ob) (λr g x hr hx=>by
       obtain⟨h1,h2⟩:=M'.own g ⟨0,r,x,ob,OF,hr,hx⟩;exact⟨h1.resolve_left λh=>h,h2⟩)
      (λr r' g x x' hr hx uG pU=>(M'.inj _ _ _ _ _ _ _ _ _ OF hr hx OF uG pU).2)
      λh1 h2=>by
       rcases xP _ _ |>.mp hb with hb | hb
       ·exact cI.iH hob (M'.dD 0 ob OF) fM λi _ hi=>iF hb h1 h2 i hi
       ·rw[aI] at hb;exact cI.adI hb.1 (M'.dD 0 ob OF) fM
     refine⟨u,rfl,ff β d (β' 0),M2,by rw[dF];exact S.size,by rw[cP];exact S.defs,dE (gF S.slot (Kp.aO gO) h2 λid ay=>mF ay) S.size hd ?_⟩;obtain⟨cs,h4,h5⟩:=hu;obtain⟨h6,h7⟩:Rel (Ok F w0 (ff β d (β' 0)) ((d,ob)::aT d s.H)) w' (ff β d (β' 0)) (iH d r) false cs/\(iH d r).row=r.row:=by
      rcases xP _ _ |>.mp hb with hb | hb
      ·exact YB fM (λi _ hi=>iF hb h3 h2 i hi) h4
      ·rw[aI] at hb;exact a78 fM hb.2 h4
     exact⟨cs,h6,by rw[h7];exact h5⟩
   ·cases h
  ·cases h
 ·cases h
end
def a43 (id aR q:Nat) (v:AV):AV:=match v with
 | .own a 0 sz=>bif Nat.beq a aR then .own id q sz else .own a 0 sz
 | .pt a 0 sz i off=>bif Nat.beq a aR then .no else .pt a 0 sz i off
 | v=>bif v.atz aR||v.atz id then .no else v
def a26 (id aR:Nat) (s:St):St:=match lkH s.H id,lkH s.H aR with
 | some (.bc oo e K out ai),some (.arr e' K' xs)=>if h:K'=K then (bif !Nat.beq id aR&&Nat.beq e e' then ⟨s.m.map λp=>(p.1,a43 id aR (ai.length+1) p.2),(id,.bc oo e K out (ai++[h ▸ xs]))::(aR,.dead)::aT id (aT aR s.H)⟩ else s) else s
 | _,_=>s
theorem mG (f:AV->AV) (hf:f .no = .no) (t:Nat):∀m:Sl,lk (m.map λp=>(p.1,f p.2)) t=f (lk m t)
 | []=>hf.symm
 | (k,v)::m=>by
  have ih:=mG f hf t m;simp only[Ag,lk] at ih ⊢
  cases hb:Nat.beq k t with
  | true=>rfl
  | false=>simpa using ih
theorem wm {C:bO} {F B0:Nat->Prop} {w0 w:World} {β:Bm} {s:St} {a:Act} {n:Nat} (S:bo C F B0 w0 n β s a w) (id aR:Nat):∃β',bo C F B0 w0 n β' (a26 id aR s) a w:=by
 unfold a26;split
 ·rename_i oo e K out ai e' K' xs hid aas;split
  ·rename_i hK;subst hK
   cases hb:(!Nat.beq id aR&&Nat.beq e e') with
   | false=>exact⟨β,S⟩
   | true=>
    rw[fh];simp only[aI,tE,pj] at hb;obtain⟨ay,rfl⟩:=hb;have ay:id≠aR:=λe=>by rw[e,yj] at ay;cases ay
    let β':Bm:=λa r=>if a=id/\r=ai.length+1 then β aR 0 else β a r
    have b0:∀a, β' a 0=β a 0:=λa=>by simp[β']
    have bne:∀{a},a≠id->β' a=β a:=λh=>by funext r;simp[β',h]
    have MF:∀{r},r≠ai.length+1->β' id r=β id r:=λh=>by simp[β',h]
    have TC:β' id (ai.length+1)=β aR 0:=by simp[β']
    have split:∀{a:Nat} {aQ:Ob},lkH ((id,.bc oo e K' out (ai++[xs]))::(aR,.dead)::aT id (aT aR s.H)) a=some aQ->(a=id/\aQ = .bc oo e K' out (ai++[xs]))\/aQ = .dead\/(a≠id/\a≠aR/\lkH s.H a=some aQ/\aQ.atz aR=false/\aQ.atz id=false):=by
     intro a aQ h1;by_cases e1:a=id
     ·subst e1;rw[aF] at h1;injection h1 with h1
      exact .inl ⟨rfl,h1.symm⟩
     ·rw[aW e1] at h1;by_cases e2:a=aR
      ·subst e2;rw[aF] at h1;injection h1 with h1
       exact .inr (.inl h1.symm)
      ·rw[aW e2,cr,cr] at h1;obtain⟨bC,h4,h5⟩:=ja.1 h1;obtain⟨DX,h6,h7⟩:=ja.1 h4
       cases hu:DX.atz aR with
       | true=>rw[hu,fh] at h7;subst h7;exact .inr (.inl h5.symm)
       | false=>
        rw[hu,q9] at h7;subst h7
        cases jg:DX.atz id with
        | true=>rw[jg,fh] at h5;exact .inr (.inl h5.symm)
        | false=>rw[jg,q9] at h5;subst h5;exact .inr (.inr ⟨e1,e2,h6,hu,jg⟩)
    have live:∀{a r g:Nat} {x:Nat×Nat} {aQ:Ob},lkH ((id,.bc oo e K' out (ai++[xs]))::(aR,.dead)::aT id (aT aR s.H)) a=some aQ->r<aQ.bZ->β' a r=some (g,x)->∃a0 r0 eH,lkH s.H a0=some eH/\r0<eH.bZ/\β a0 r0=some (g,x)/\((a=id/\r=ai.length+1/\a0=aR/\r0=0)\/(a0=a/\r0=r/\a≠aR)):=by
     intro a r g x aQ h1 h2 h3;rcases split h1 with ⟨rfl,rfl⟩ | rfl | ⟨h4,h5,h6,_⟩
     ·by_cases er:r=ai.length+1
      ·subst er;rw[TC] at h3;exact⟨aR,0,_,aas,Nat.one_pos,h3,.inl ⟨rfl,rfl,rfl,rfl⟩⟩
      ·rw[MF er] at h3;have h2:r<(ai++[xs]).length+1:=h2;rw[c6,yn] at h2;exact⟨a,r,_,hid,by show r<ai.length+1;omega,h3,.inr ⟨rfl,rfl,ay⟩⟩
     ·exact absurd h2 (nc _)
     ·rw[bne h4] at h3;exact⟨a,r,aQ,h6,h2,h3,.inr ⟨rfl,rfl,h5⟩⟩
    have ho:∀i,Ok F w0 β s.H i->Ok F w0 β' ((id,.bc oo e K' out (ai++[xs]))::(aR,.dead)::aT id (aT aR s.H)) i:=λi h=>⟨h.1,λ⟨a,r,x,aQ,h1,h2,h3⟩=>by obtain⟨a0,r0,eH,h4,h5,h6,_⟩:=live h1 h2 h3;exact h.2 ⟨a0,r0,x,eH,h4,h5,h6⟩⟩
    have kk:Kp (Ok F w0 β s.H) w w:=Kp.aO (Ext.refl w);refine⟨β',⟨S.mem.fr,λg hg=>?_,λa1 r1 a2 r2 aQ bC g x x' h1 h2 h3 h4 h5 h6=>?_,λa1 aQ h1=>?_,S.mem.tb⟩,S.size,S.defs,λt=>?_⟩
    ·obtain⟨a1,r,x,aQ,h1,h2,h3⟩:=hg;obtain⟨a0,r0,eH,h4,h5,h6,_⟩:=live h1 h2 h3;exact S.mem.own g ⟨a0,r0,x,eH,h4,h5,h6⟩
    ·obtain⟨a0,r0,eH,k1,k2,k3,k4⟩:=live h1 h2 h3;obtain⟨c0,q0,oc,l1,l2,l3,l4⟩:=live h4 h5 h6;obtain⟨m1,m2⟩:=S.mem.inj _ _ _ _ _ _ _ _ _ k1 k2 k3 l1 l2 l3;rcases k4 with ⟨p1,p2,p3,p4⟩ | ⟨p1,p2,p3⟩<;>rcases l4 with ⟨q1,q2,q3,q4⟩ | ⟨q1,q2,q3⟩
     ·exact⟨p1.trans q1.symm,p2.trans q2.symm⟩
     ·exact absurd (q1.symm.trans (m1.symm.trans p3)) q3
     ·exact absurd (p1.symm.trans (m1.trans q3)) p3
     ·exact⟨p1.symm.trans (m1.trans q1),p2.symm.trans (m2.trans q2)⟩
    ·rcases split h1 with ⟨rfl,rfl⟩ | rfl | ⟨h4,h5,h6,h7,h8⟩
     ·obtain⟨a0,a7,a8⟩:=S.mem.dD _ _ hid;refine⟨a0.imp (λ⟨a,b⟩=>⟨by rw[b0];exact a,b⟩) λ⟨g,Cx,cs,sp,a1,a2,a3,a4,a5,a6⟩=>⟨g,Cx,cs,sp,by rw[b0];exact a1,a2,a3,a4,a5,λi p hp=>by
       obtain⟨c1,v,c2,c3⟩:=a6 i p hp;refine⟨by rw[c6];omega,v,c2,?_⟩;unfold Rel at c3 ⊢;rw[MF (by omega)];exact c3⟩,λp row hp=>?_,λp hp=>?_⟩
      ·rcases aV p ai.length with aU | iU
       ·rw[iR aU] at hp;rw[MF (by omega)];exact(a7 p row hp).ak kk (λi _ h=>ho i h) λ_ _ _=>rfl
       ·have aU:p<(ai++[xs]).length:=(tD.1 hp).1;rw[c6,yn] at aU;have:p=ai.length:=by omega
        subst this;rw[pq (bX _),Ay] at hp;have hp:some xs=some row:=hp;injection hp with hp
        subst hp;rw[TC];exact aS.ak (S.mem.dD _ _ aas) kk (λi _ h=>ho i h) λ_ _ _=>rfl
      ·rw[c6,yn] at hp;rw[MF (by omega)];exact a8 p (by omega)
     ·trivial
     ·exact(S.mem.dD _ _ h6).ak kk (λi _ h=>ho i h) (bne h4) (λd hd=>bne λe=>by subst e;rw[h8] at hd;cases hd) λ_ _ _ _ _=>rfl
    ·show aq _ w β' (lk (s.m.map λp=>(p.1,a43 id aR (ai.length+1) p.2)) t) _;rw[mG _ rfl];have hs:=S.slot t;generalize lk s.m t=v at hs;have dfl:aq (Ok F w0 β' ((id,.bc oo e K' out (ai++[xs]))::(aR,.dead)::aT id (aT aR s.H))) w β' (bif v.atz aR||v.atz id then .no else v) (a.tmps.getD t undef):=by
      cases hu:(v.atz aR||v.atz id) with
      | true=>exact .no _ _ _ _
      | false=>rw[yZ] at hu;exact hs.ak kk (λi _ h=>ho i h) λd hd=>bne λe=>by subst e;rw[hu.2] at hd;cases hd
     unfold a43;split
     ·rename_i a1 sz;obtain⟨c,hc,hv⟩:=hs;have hc:c=[slV (β a1 0)]:=hc
      cases hb:Nat.beq a1 aR with
      | true=>have:=gU hb;subst this;exact⟨c,by show c=[slV (β' id (ai.length+1))];rw[TC];exact hc,hv⟩
      | false=>exact⟨c,by show c=[slV (β' a1 0)];rw[b0];exact hc,hv⟩
     ·rename_i a1 sz i off
      cases hb:Nat.beq a1 aR with
      | true=>exact .no _ _ _ _
      | false=>obtain⟨c,⟨g,Cx,k,h1,h2⟩,hv⟩:=hs;exact⟨c,⟨g,Cx,k,(b0 a1).trans h1,h2⟩,hv⟩
     ·exact dfl
  ·exact⟨β,S⟩
 ·exact⟨β,S⟩
def a45 (id:Nat) (v:AV):AV:=match v with
 | .own a 0 sz=>.own a 0 sz
 | .pt a 0 sz i off=>.pt a 0 sz i off
 | v=>bif v.atz id then .no else v
def aGj (id:Nat) (s:St):St:=match lkH s.H id with
 | some (.bc oo _ K out ai)=>⟨s.m.map λp=>(p.1,a45 id p.2),(id,.arr oo (.list K) (out.map λp=>ai.getD p []))::aT id s.H⟩
 | _=>s
theorem qE {C:bO} {F B0:Nat->Prop} {w0 w:World} {β:Bm} {s:St} {a:Act} {n:Nat} (hB:BF B0 F) (S:bo C F B0 w0 n β s a w) (id:Nat):bo C F B0 w0 n β (aGj id s) a w:=by
 unfold aGj;split
 ·rename_i oo e K out ai hid;have split:∀{a:Nat} {aQ:Ob},lkH ((id,.arr oo (.list K) (out.map λp=>ai.getD p []))::aT id s.H) a=some aQ->(a=id/\aQ = .arr oo (.list K) (out.map λp=>ai.getD p []))\/aQ = .dead\/(a≠id/\lkH s.H a=some aQ/\aQ.atz id=false):=by
   intro a aQ h1;by_cases e1:a=id
   ·subst e1;rw[aF] at h1;injection h1 with h1
    exact .inl ⟨rfl,h1.symm⟩
   ·rw[aW e1,cr] at h1;obtain⟨DX,h6,h7⟩:=ja.1 h1
    cases hu:DX.atz id with
    | true=>rw[hu,fh] at h7;exact .inr (.inl h7.symm)
    | false=>rw[hu,q9] at h7;subst h7;exact .inr (.inr ⟨e1,h6,hu⟩)
  have live:∀{a r g:Nat} {x:Nat×Nat} {aQ:Ob},lkH ((id,.arr oo (.list K) (out.map λp=>ai.getD p []))::aT id s.H) a=some aQ->r<aQ.bZ->β a r=some (g,x)->∃eH,lkH s.H a=some eH/\r<eH.bZ/\(a=id->r=0):=by
   intro a r g x aQ h1 h2 h3;rcases split h1 with ⟨rfl,rfl⟩ | rfl | ⟨h4,h6,_⟩
   ·have h2:r<1:=h2;exact⟨_,hid,dz h2 (Nat.succ_le_succ (ia _)),λ_=>by omega⟩
   ·exact absurd h2 (nc _)
   ·exact⟨aQ,h6,h2,λe=>absurd e h4⟩
  have ho:∀i,Ok F w0 β s.H i->Ok F w0 β ((id,.arr oo (.list K) (out.map λp=>ai.getD p []))::aT id s.H) i:=λi h=>⟨h.1,λ⟨a,r,x,aQ,h1,h2,h3⟩=>by obtain⟨eH,h4,h5,_⟩:=live h1 h2 h3;exact h.2 ⟨a,r,x,eH,h4,h5,h3⟩⟩
  have gK:∀{p g:Nat} {x:Nat×Nat},p<ai.length->β id (p+1)=some (g,x)->Ok F w0 β ((id,.arr oo (.list K) (out.map λp=>ai.getD p []))::aT id s.H) g:=fun {p g x} hp hb=>by have wq:p+1<(Ob.bc oo e K out ai).bZ:=ux hp;refine⟨(S.mem.own g ⟨id,p+1,x,_,hid,wq,hb⟩).1.imp (hB g) λh=>h,λ⟨a,r,y,aQ,h1,h2,h3⟩=>?_⟩;obtain⟨eH,h4,h5,h6⟩:=live h1 h2 h3;obtain⟨e1,e2⟩:=S.mem.inj _ _ _ _ _ _ _ _ _ h4 h5 h3 hid wq hb;have:=h6 e1;omega
  have kk:Kp (Ok F w0 β s.H) w w:=Kp.aO (Ext.refl w);refine⟨⟨S.mem.fr,λg hg=>?_,λa1 r1 a2 r2 aQ bC g x x' h1 h2 h3 h4 h5 h6=>?_,λa1 aQ h1=>?_,S.mem.tb⟩,S.size,S.defs,λt=>?_⟩
  ·obtain⟨a1,r,x,aQ,h1,h2,h3⟩:=hg;obtain⟨eH,h4,h5,_⟩:=live h1 h2 h3;exact S.mem.own g ⟨a1,r,x,eH,h4,h5,h3⟩
  ·obtain⟨eH,k1,k2,_⟩:=live h1 h2 h3;obtain⟨oc,l1,l2,_⟩:=live h4 h5 h6;exact S.mem.inj _ _ _ _ _ _ _ _ _ k1 k2 h3 l1 l2 h6
  ·rcases split h1 with ⟨rfl,rfl⟩ | rfl | ⟨h4,h6,h8⟩
   ·obtain⟨q0,q7,q8⟩:=S.mem.dD _ _ hid;show aS _ w (β a1 0) oo (.list K) _;rcases q0 with ⟨hn,rfl⟩ | ⟨g,Cx,cs,sp,q1,q2,q3,q4,q5,q6⟩
    ·rw[hn];rfl
    rw[q1];have hl:out.length<=Cx:=by rw[<-q4,c6,q3];omega
    refine⟨cs.map λc=>[c],sp,by rw[ov];exact q2,by simp[q3],λi x c hx hc=>?_,by rw[ov,q4];simp[Kd.sz],by simp,by simpa using hl,by simpa using q5⟩;rw[vu,ja] at hx hc;obtain⟨p,hp,rfl⟩:=hx;obtain⟨c',j7,rfl⟩:=hc;obtain⟨aU,v,hv,uG⟩:=q6 i p hp;rw[j7] at hv;injection hv with hv
    subst hv;have kT:ai[p]? = some ai[p]:=bF aU;have:=mw (q7 p _ kT) ho (λg x e=>gK aU e) (cs:=[c']) uG;rw[au,kT];exact this
   ·trivial
   ·exact(S.mem.dD _ _ h6).ak kk (λi _ h=>ho i h) rfl (λ_ _=>rfl) λ_ _ _ _ _=>rfl
  ·show aq _ w β (lk (s.m.map λp=>(p.1,a45 id p.2)) t) _;rw[mG _ rfl];have hs:=(S.slot t).ak kk (λi _ h=>ho i h) (β':= β) λ_ _=>rfl;generalize lk s.m t=v at hs;unfold a45;split
   ·exact hs
   ·exact hs
   ·cases hu:v.atz id with
    | true=>exact .no _ _ _ _
    | false=>exact hs
 ·exact S
def a47 (C:bO) (s:St) (dst:Option Tmp) (t:TypeId) (l c:AV):SR:=match dst,a5G C t,l,c with
 | some d,some (e,.list K),.k (.int _) l,.k (.int _) c=>match C.P.underlying e with
  | some (.slice e')=>some (some (0<=l/\l<=c/\c<=1099511627776),jB d dst (.bc e e' K (List.replicate l.toNat 0) [[]]) (.own d 0 1) s)
  | _=>none
 | _,_,_,_=>none
def a5a (C:bO) (s:St) (dst:Option Tmp) (t:TypeId) (l c:AV):SR:=match a47 C s dst t l c with
 | some r=>some r
 | none=>a4Z C s dst t l c
theorem YD (n:Nat) (v:Value):(List.replicate n [v]).flatten=List.replicate n v:=by have:=ov (List.replicate n v);rwa [List.map_replicate] at this
section
variable {C:bO} {F B0:Nat->Prop} {w0 w:World} {β:Bm} {s:St} {a:Act} {n:Nat} {o:Oper}
theorem DY (hT:dI C.Tb) (S:bo C F B0 w0 n β s a w) (hd:∀d,o.dst=some d->d<n) {t e e':TypeId} {x y:Operand} {K:Kd} {d:Nat} {kl kc:IntKind} {l c:Int} (ho:o.op = .makeSlice t x y) (hK:a5G C t=some (e,.list K)) (exi:a.eval x = .int kl l) (eyi:a.eval y = .int kc c) (h1:0<=l) (h2:l<=c) (h3:c<=1099511627776) :
  oC C F B0 w0 w n a o (jB d o.dst (.bc e e' K (List.replicate l.toNat 0) [[]]) (.own d 0 1) s):=by
 obtain⟨hu,inf,z,hi,hz,br,ke,Im,cT,h0⟩:=Tt hK
 have pR:z.cells.toList=[.slice none 0 0]:=by
  unfold zK at Im;split at Im
  ·rename_i e1;exact e1
  ·cases Im
 have br:inf.size=1:=br
 have Oz:z.cells.size=inf.size:=by rw[br,<-tL,pR];rfl
 have hr:=run_make (P:=C.P) w t e inf z hu hi hz kl kc l c h1 h2 (by
  have j7:(c.toNat:Int)=c:=CO (by omega);have:inf.bytes*c.toNat<=128*1099511627776:=x6 ke (by omega);have h5:((inf.bytes*c.toNat:Nat):Int)<=281474976710656:=by omega
  rw[xX,j7] at h5;exact h5) (by omega)
 have fQ:=wg Oz (by omega) c.toNat
 rw[pR,YD] at fQ
 have vd:List.replicate c.toNat (Value.slice none 0 0)=List.replicate l.toNat (.slice none 0 0)++List.replicate (c.toNat-l.toNat) (.slice none 0 0):=by rw[Gz];congr 1;omega
 have e1:Ext w (w.alloc (.cells (madeCells z.cells (c.toNat*inf.size)) e)):=(Ext.refl w).alloc _
 have dm:ar (w.alloc (.cells (madeCells z.cells (c.toNat*inf.size)) e)) w.heap.size e (List.replicate l.toNat (.slice none 0 0)++List.replicate (c.toNat-l.toNat) (.slice none 0 0)):=by have:=ar.new w e (madeCells z.cells (c.toNat*inf.size)).toList;rw[yr] at this;rw[<-vd,<-fQ];exact this
 have rI:∀v∈(madeCells z.cells (c.toNat*inf.size)).toList,bf v=true:=by intro v hv;rw[fQ] at hv;rw[(CU.1 hv).2];rfl
 let b:Nat->Option (Nat×Nat×Nat):=λr=>if r=0 then some (w.heap.size,c.toNat,l.toNat) else none
 have kf:b 0=some (w.heap.size,c.toNat,l.toNat):=rfl
 have hbs:∀r,b (r+1)=none:=λr=>rfl
 have TD:∀{r g x},b r=some (g,x)->r=0/\g=w.heap.size:=by
  intro r g x hx
  cases r with
  | zero=>rw[kf] at hx;injection hx with hx;injection hx with hx _;exact⟨rfl,hx.symm⟩
  | succ r=>cases hx
 obtain⟨M2,h4,h5⟩:=S.mem.aar hT e1 (d:=d) (b:=b) (ob:=.bc e e' K (List.replicate l.toNat 0) [[]])
  (λr g x _ hx=>by obtain⟨_,rfl⟩:=TD hx;exact⟨bX _,jC,gj rI (by rw[yr])⟩)
  (λr r' g x x' _ hx _ pU=>by rw[(TD hx).1,(TD pU).1])
  (λ_ _=>by
   refine⟨.inr ⟨w.heap.size,c.toNat,List.replicate l.toNat (.slice none 0 0),List.replicate (c.toNat-l.toNat) (.slice none 0 0),by rw[fM,kf];simp,dm,by simp,by simp;omega,by simp;unfold aB;omega,λi p hp=>?_⟩,λp row hp=>?_,λp hp=>?_⟩
   ·have hil:i<l.toNat:=by
     have:=(tD.1 hp).1;simpa using this
    have hp0:=fA hp;subst hp0;refine⟨by simp,.slice none 0 0,by rw[yh,fi hil],?_⟩;show[_]=[slV (ff β d b d (0+1))]
    rw[fM,hbs];rfl
   ·rw[fM,hbs];show row=[]
    cases p with
    | zero=>simpa using hp.symm
    | succ p=>simp at hp
   ·rw[fM,hbs])
 refine cO (v:=.slice (some ⟨w.heap.size,0,none⟩) l.toNat c.toNat) (w':=w.alloc (.cells (madeCells z.cells (c.toNat*inf.size)) e)) ?_ ⟨⟨ff β d b,M2,by rw[dF];exact S.size,by rw[cP];exact S.defs,dE (gF S.slot (Kp.aO e1) h4 λid ay=>mF ay) S.size hd ?_⟩,gG⟩
 ·unfold execOp
  simp only[ho,exi,eyi,Sem.run_bind,hr,Result.andThen_ok,Sem.run_pure]
 ·refine⟨[slV (ff β d b d 0)],rfl,?_⟩
  rw[fM,kf]
  rfl
theorem OG (hT:dI C.Tb) (S:bo C F B0 w0 n β s a w) (hd:∀d,o.dst=some d->d<n) {t:TypeId} {x y:Operand} {g:Option Prop} {s':St} (ho:o.op = .makeSlice t x y) (h:a47 C s o.dst t (ev s.m x) (ev s.m y)=some (g,s')):bt g->oC C F B0 w0 w n a o s':=by
 intro hg;unfold a47 at h;split at h
 ·rename_i d e K kl l kc c ib hK hl hc;split at h
  ·rename_i e' he';injection h with h
   injection h with h1 h;subst h1;subst h;have ex:=ew S.slot x;have ey:=ew S.slot y;rw[hl] at ex;rw[hc] at ey;exact DY hT S hd ho hK ex.int ey.int hg.1 hg.2.1 hg.2.2
  ·cases h
 ·cases h
theorem zh (hT:dI C.Tb) (S:bo C F B0 w0 n β s a w) (hd:∀d,o.dst=some d->d<n) {t:TypeId} {x y:Operand} {g:Option Prop} {s':St} (ho:o.op = .makeSlice t x y) (h:a5a C s o.dst t (ev s.m x) (ev s.m y)=some (g,s')):bt g->oC C F B0 w0 w n a o s':=by
 unfold a5a at h;split at h
 ·rename_i r hm;injection h with h
  subst h;exact OG hT S hd ho hm
 ·exact Tu hT S hd ho h
end
end Go.Proofs.YtnciifikfkpanaaGreatDoor.AM
