/- The program's structures,as data. Written by dec3.py. -/
import Derived.Test.YtaofbminodhcnaaZbai
set_option linter.unusedVariables false
set_option linter.unusedSimpArgs false
namespace Go.Proofs.Ytaofbminodhcnaa
open Go.RowKit
structure Call where
 Name:List UInt8
 File:Int
 At:Int
 deriving Inhabited,DecidableEq
def J9(x:Call):D:=.ag [.v (str x.Name),.v (.int .i64 x.File),.v (.int .i64 x.At)]
theorem JgF(x y:Call)(h:J9 x=J9 y):x=y:=by
 rcases x with⟨_,_,_⟩; rcases y with⟨_,_,_⟩
 simp only[J9,D.ag.injEq,List.cons.injEq,and_true]at h
 obtain⟨h0,h1,h2⟩:=h
 have h0:=Jdc _ _ h0
 have h1:=KW _ _ h1
 have h2:=KW _ _ h2
 subst_vars
 rfl
theorem JoO(x y:Call)(h:Vm (J9 x)=Vm (J9 y)):x=y:=by
 rcases x with⟨_,_,_⟩; rcases y with⟨_,_,_⟩
 simp only[J9,Vm,Jcd,List.map_cons,List.map_nil,D.ag.injEq,List.cons.injEq,and_true]at h
 obtain⟨h0,h1,h2⟩:=h
 have h0:=Jdc _ _ h0
 have h1:=KW _ _ h1
 have h2:=KW _ _ h2
 subst_vars
 rfl
instance:DInj J9:=⟨JoO,JgF⟩
structure Token where
 Kind:Int
 Text:List UInt8
 Space:Bool
 First:Bool
 File:Int
 At:Int
 End:Int
 Line:Int
 Hide:List (List UInt8)
 Calls:List Call
 Made:Int
 deriving Inhabited,DecidableEq
def Jb(x:Token):D:=.ag [.v (.int .i64 x.Kind),.v (str x.Text),.v (.bool x.Space),.v (.bool x.First),.v (.int .i64 x.File),.v (.int .i64 x.At),.v (.int .i64 x.End),.v (.int .i64 x.Line),.sl 1 (List.map dS x.Hide),.sl 3 (List.map J9 x.Calls),.v (.int .i64 x.Made)]
theorem JoH(x y:Token)(h:Jb x=Jb y):x=y:=by
 rcases x with⟨_,_,_,_,_,_,_,_,_,_,_⟩; rcases y with⟨_,_,_,_,_,_,_,_,_,_,_⟩
 simp only[Jb,D.ag.injEq,List.cons.injEq,and_true]at h
 obtain⟨h0,h1,h2,h3,h4,h5,h6,h7,h8,h9,h10⟩:=h
 have h0:=KW _ _ h0
 have h1:=Jdc _ _ h1
 have h2:=Jgs _ _ h2
 have h3:=Jgs _ _ h3
 have h4:=KW _ _ h4
 have h5:=KW _ _ h5
 have h6:=KW _ _ h6
 have h7:=KW _ _ h7
 have h8:=JeW (sz:=1) Jdc _ _ h8
 have h9:=JeW (sz:=3) JgF _ _ h9
 have h10:=KW _ _ h10
 subst_vars
 rfl
theorem JnT(x y:Token)(h:Vm (Jb x)=Vm (Jb y)):x=y:=by
 rcases x with⟨_,_,_,_,_,_,_,_,_,_,_⟩; rcases y with⟨_,_,_,_,_,_,_,_,_,_,_⟩
 simp only[Jb,Vm,Jcd,List.map_cons,List.map_nil,D.ag.injEq,List.cons.injEq,and_true]at h
 obtain⟨h0,h1,h2,h3,h4,h5,h6,h7,h8,h9,h10⟩:=h
 have h0:=KW _ _ h0
 have h1:=Jdc _ _ h1
 have h2:=Jgs _ _ h2
 have h3:=Jgs _ _ h3
 have h4:=KW _ _ h4
 have h5:=KW _ _ h5
 have h6:=KW _ _ h6
 have h7:=KW _ _ h7
 have h8:=JeW (sz:=0) Jdc _ _ h8
 have h9:=JeW (sz:=0) JgF _ _ h9
 have h10:=KW _ _ h10
 subst_vars
 rfl
theorem Jsp(x:Token):(Jb x).cells.all D.one=true:=rfl
instance:DInj Jb:=⟨JnT,JoH⟩
structure Spliced where
 Text:List UInt8
 At:List Int
 deriving Inhabited,DecidableEq
def ZU(x:Spliced):D:=.ag [.v (str x.Text),.sl 1 (List.map dI x.At)]
theorem JmU(x y:Spliced)(h:ZU x=ZU y):x=y:=by
 rcases x with⟨_,_⟩; rcases y with⟨_,_⟩
 simp only[ZU,D.ag.injEq,List.cons.injEq,and_true]at h
 obtain⟨h0,h1⟩:=h
 have h0:=Jdc _ _ h0
 have h1:=JeW (sz:=1) KW _ _ h1
 subst_vars
 rfl
theorem JkK(x y:Spliced)(h:Vm (ZU x)=Vm (ZU y)):x=y:=by
 rcases x with⟨_,_⟩; rcases y with⟨_,_⟩
 simp only[ZU,Vm,Jcd,List.map_cons,List.map_nil,D.ag.injEq,List.cons.injEq,and_true]at h
 obtain⟨h0,h1⟩:=h
 have h0:=Jdc _ _ h0
 have h1:=JeW (sz:=0) KW _ _ h1
 subst_vars
 rfl
instance:DInj ZU:=⟨JkK,JmU⟩
structure Fault where
 Err:Int
 File:Int
 At:Int
 deriving Inhabited,DecidableEq
def Kf(x:Fault):D:=.ag [.v (.int .i64 x.Err),.v (.int .i64 x.File),.v (.int .i64 x.At)]
theorem JoJ(x y:Fault)(h:Kf x=Kf y):x=y:=by
 rcases x with⟨_,_,_⟩; rcases y with⟨_,_,_⟩
 simp only[Kf,D.ag.injEq,List.cons.injEq,and_true]at h
 obtain⟨h0,h1,h2⟩:=h
 have h0:=KW _ _ h0
 have h1:=KW _ _ h1
 have h2:=KW _ _ h2
 subst_vars
 rfl
theorem Jod(x y:Fault)(h:Vm (Kf x)=Vm (Kf y)):x=y:=by
 rcases x with⟨_,_,_⟩; rcases y with⟨_,_,_⟩
 simp only[Kf,Vm,Jcd,List.map_cons,List.map_nil,D.ag.injEq,List.cons.injEq,and_true]at h
 obtain⟨h0,h1,h2⟩:=h
 have h0:=KW _ _ h0
 have h1:=KW _ _ h1
 have h2:=KW _ _ h2
 subst_vars
 rfl
instance:DInj Kf:=⟨Jod,JoJ⟩
structure Bind where
 Tok:Int
 Decl:Int
 deriving Inhabited,DecidableEq
def Ji(x:Bind):D:=.ag [.v (.int .i64 x.Tok),.v (.int .i64 x.Decl)]
theorem JqW(x y:Bind)(h:Ji x=Ji y):x=y:=by
 rcases x with⟨_,_⟩; rcases y with⟨_,_⟩
 simp only[Ji,D.ag.injEq,List.cons.injEq,and_true]at h
 obtain⟨h0,h1⟩:=h
 have h0:=KW _ _ h0
 have h1:=KW _ _ h1
 subst_vars
 rfl
theorem JoR(x y:Bind)(h:Vm (Ji x)=Vm (Ji y)):x=y:=by
 rcases x with⟨_,_⟩; rcases y with⟨_,_⟩
 simp only[Ji,Vm,Jcd,List.map_cons,List.map_nil,D.ag.injEq,List.cons.injEq,and_true]at h
 obtain⟨h0,h1⟩:=h
 have h0:=KW _ _ h0
 have h1:=KW _ _ h1
 subst_vars
 rfl
theorem JnK(x:Bind):(Ji x).cells.all D.one=true:=rfl
instance:DInj Ji:=⟨JoR,JqW⟩
end Go.Proofs.Ytaofbminodhcnaa
