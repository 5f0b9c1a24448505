/- Facts on types,and which functions can be called. -/
import Derived.Test.YtfkhlbhjhdpkoaaGreatDoorZpae
import Derived.Test.YtfkhlbhjhdpkoaaGreatDoorRows
set_option linter.unusedVariables false
set_option linter.unusedSimpArgs false
namespace Go.Proofs.YtfkhlbhjhdpkoaaGreatDoor
open Go.RowKit
theorem Jvl:JI Tryz.prog 3=true:=by kernel_rfl
theorem JxF:Jq Tryz.prog 3=1:=by kernel_rfl
theorem Jzu:tAgg Tryz.prog 3=false:=by kernel_rfl
theorem JzI:tZok Tryz.prog 3=true:=by kernel_rfl
theorem tZ_3:tZ Tryz.prog 3=[.int .i64 0]:=by kernel_rfl
theorem JBJ:tCS Tryz.prog 3=[0]:=by kernel_rfl
theorem JtW:Vp Tryz.prog 3=8:=by kernel_rfl
theorem Juq:JI Tryz.prog 4=true:=by kernel_rfl
theorem JwZ:Jq Tryz.prog 4=1:=by kernel_rfl
theorem JzV:tAgg Tryz.prog 4=false:=by kernel_rfl
theorem Jzq:tZok Tryz.prog 4=true:=by kernel_rfl
theorem tZ_4:tZ Tryz.prog 4=[.bool false]:=by kernel_rfl
theorem JBK:tCS Tryz.prog 4=[0]:=by kernel_rfl
theorem JuO:Vp Tryz.prog 4=1:=by kernel_rfl
theorem Jub:JI Tryz.prog 5=true:=by kernel_rfl
theorem Jxo:Jq Tryz.prog 5=1:=by kernel_rfl
theorem Jzg:tAgg Tryz.prog 5=false:=by kernel_rfl
theorem Jz5:tZok Tryz.prog 5=true:=by kernel_rfl
theorem tZ_5:tZ Tryz.prog 5=[.int .u8 0]:=by kernel_rfl
theorem JBQ:tCS Tryz.prog 5=[0]:=by kernel_rfl
theorem JuG:Vp Tryz.prog 5=1:=by kernel_rfl
theorem JB9:tZ1 Tryz.prog 5=true:=by kernel_rfl
theorem JuF:JI Tryz.prog 9=true:=by kernel_rfl
theorem Jw9:Jq Tryz.prog 9=1:=by kernel_rfl
theorem JyH:tAgg Tryz.prog 9=false:=by kernel_rfl
theorem Jz9:tZok Tryz.prog 9=true:=by kernel_rfl
theorem tZ_9:tZ Tryz.prog 9=[str []]:=by kernel_rfl
theorem JBM:tCS Tryz.prog 9=[0]:=by kernel_rfl
theorem Jvt:Vp Tryz.prog 9=16:=by kernel_rfl
theorem Jnd:Jcb Tryz.prog 9=true:=by kernel_rfl
theorem Jvi:Ji1 Tryz.prog 20=true:=by kernel_rfl
theorem JvC:Jci Tryz.prog 20=4:=by kernel_rfl
theorem JsQ:JI Tryz.prog 24=true:=by kernel_rfl
theorem JuE:Jq Tryz.prog 24=1:=by kernel_rfl
theorem JwQ:tAgg Tryz.prog 24=false:=by kernel_rfl
theorem JwO:tZok Tryz.prog 24=true:=by kernel_rfl
theorem JCa:tZ Tryz.prog 24=[.slice none 0 0]:=by kernel_rfl
theorem JyF:tCS Tryz.prog 24=[11]:=by kernel_rfl
theorem Jqf:Vp Tryz.prog 24=24:=by kernel_rfl
theorem JuS:Jci Tryz.prog 24=1:=by kernel_rfl
theorem Jr2:JH Tryz.prog 24=true:=by kernel_rfl
theorem Jt8:Jt Tryz.prog 24=44:=by kernel_rfl
theorem JrC:Jct 24=true:=by kernel_rfl
theorem Jun:Z6 24=true:=by kernel_rfl
theorem Jrj:JI Tryz.prog 25=true:=by kernel_rfl
theorem Ju0:Jq Tryz.prog 25=1:=by kernel_rfl
theorem JwE:tAgg Tryz.prog 25=false:=by kernel_rfl
theorem Jy7:tCS Tryz.prog 25=[1]:=by kernel_rfl
theorem Jsb:JH Tryz.prog 25=true:=by kernel_rfl
theorem Juv:Jt Tryz.prog 25=3:=by kernel_rfl
theorem JsJ:Jct 25=false:=by kernel_rfl
theorem JuB:Z6 25=true:=by kernel_rfl
theorem Jq4:JI Tryz.prog 27=true:=by kernel_rfl
theorem Jtz:Jq Tryz.prog 27=2:=by kernel_rfl
theorem Jxr:tAgg Tryz.prog 27=true:=by kernel_rfl
theorem Jwu:tZok Tryz.prog 27=true:=by kernel_rfl
theorem JBR:tZ Tryz.prog 27=[.slice none 0 0,.slice none 0 0]:=by kernel_rfl
theorem Jyw:tCS Tryz.prog 27=[11,1]:=by kernel_rfl
theorem Jr6:XD Tryz.prog 27=true:=by kernel_rfl
theorem JkC:Jr Tryz.prog 27 0=true:=by kernel_rfl
theorem Jqj:tOff Tryz.prog 27 0=0:=by kernel_rfl
theorem JsO:tFld Tryz.prog 27 0=24:=by kernel_rfl
theorem JlM:Jr Tryz.prog 27 1=true:=by kernel_rfl
theorem JqO:tOff Tryz.prog 27 1=1:=by kernel_rfl
theorem JrL:tFld Tryz.prog 27 1=25:=by kernel_rfl
theorem JqB:JI Tryz.prog 28=true:=by kernel_rfl
theorem Jug:Jq Tryz.prog 28=1:=by kernel_rfl
theorem Jw5:tAgg Tryz.prog 28=false:=by kernel_rfl
theorem JwH:tZok Tryz.prog 28=true:=by kernel_rfl
theorem JB0:tZ Tryz.prog 28=[.slice none 0 0]:=by kernel_rfl
theorem JyX:tCS Tryz.prog 28=[5]:=by kernel_rfl
theorem JvD:Jci Tryz.prog 28=1:=by kernel_rfl
theorem Jqo:JH Tryz.prog 28=true:=by kernel_rfl
theorem Jvy:Jt Tryz.prog 28=63:=by kernel_rfl
theorem Jsy:Jct 28=true:=by kernel_rfl
theorem Jtt:Z6 28=true:=by kernel_rfl
theorem JpX:JI Tryz.prog 29=true:=by kernel_rfl
theorem Jt7:Jq Tryz.prog 29=1:=by kernel_rfl
theorem Jw8:tAgg Tryz.prog 29=false:=by kernel_rfl
theorem Jz4:tCS Tryz.prog 29=[0]:=by kernel_rfl
theorem Jq8:JI Tryz.prog 31=true:=by kernel_rfl
theorem JtV:Jq Tryz.prog 31=3:=by kernel_rfl
theorem Jw7:tAgg Tryz.prog 31=true:=by kernel_rfl
theorem Jxl:tZok Tryz.prog 31=true:=by kernel_rfl
theorem JB1:tZ Tryz.prog 31=[.int .i64 0,.int .i64 0,.int .i64 0]:=by kernel_rfl
theorem Jy4:tCS Tryz.prog 31=[0,0,0]:=by kernel_rfl
theorem Jsn:XD Tryz.prog 31=true:=by kernel_rfl
theorem JkP:Jr Tryz.prog 31 0=true:=by kernel_rfl
theorem Jsd:tOff Tryz.prog 31 0=0:=by kernel_rfl
theorem Jp2:tFld Tryz.prog 31 0=29:=by kernel_rfl
theorem Jly:Jr Tryz.prog 31 1=true:=by kernel_rfl
theorem JsE:tOff Tryz.prog 31 1=1:=by kernel_rfl
theorem JsL:tFld Tryz.prog 31 1=3:=by kernel_rfl
theorem JlK:Jr Tryz.prog 31 2=true:=by kernel_rfl
theorem Jr3:tOff Tryz.prog 31 2=2:=by kernel_rfl
theorem JrO:tFld Tryz.prog 31 2=3:=by kernel_rfl
theorem JqI:JI Tryz.prog 35=true:=by kernel_rfl
theorem JuY:Jq Tryz.prog 35=2:=by kernel_rfl
theorem Jxh:tAgg Tryz.prog 35=true:=by kernel_rfl
theorem Jwx:tZok Tryz.prog 35=true:=by kernel_rfl
theorem JB7:tZ Tryz.prog 35=[str [],str []]:=by kernel_rfl
theorem Jy5:tCS Tryz.prog 35=[0,0]:=by kernel_rfl
theorem JsK:Vp Tryz.prog 35=32:=by kernel_rfl
theorem Jsm:XD Tryz.prog 35=true:=by kernel_rfl
theorem Jlz:Jr Tryz.prog 35 0=true:=by kernel_rfl
theorem JpJ:tOff Tryz.prog 35 0=0:=by kernel_rfl
theorem Jr1:tFld Tryz.prog 35 0=9:=by kernel_rfl
theorem Jlp:Jr Tryz.prog 35 1=true:=by kernel_rfl
theorem Jp5:tOff Tryz.prog 35 1=1:=by kernel_rfl
theorem Jrt:tFld Tryz.prog 35 1=9:=by kernel_rfl
theorem JqS:JI Tryz.prog 37=true:=by kernel_rfl
theorem Jvj:Jq Tryz.prog 37=1:=by kernel_rfl
theorem JxI:tAgg Tryz.prog 37=false:=by kernel_rfl
theorem JyK:tCS Tryz.prog 37=[2]:=by kernel_rfl
theorem Jq6:JH Tryz.prog 37=true:=by kernel_rfl
theorem JtK:Jt Tryz.prog 37=35:=by kernel_rfl
theorem JqD:Jct 37=false:=by kernel_rfl
theorem JuT:Z6 37=false:=by kernel_rfl
theorem Jrz:JI Tryz.prog 39=true:=by kernel_rfl
theorem Juf:Jq Tryz.prog 39=3:=by kernel_rfl
theorem Jxf:tAgg Tryz.prog 39=true:=by kernel_rfl
theorem JwV:tZok Tryz.prog 39=true:=by kernel_rfl
theorem JB6:tZ Tryz.prog 39=[.int .i64 0,.int .i64 0,.int .i64 0]:=by kernel_rfl
theorem Jzk:tCS Tryz.prog 39=[0,0,0]:=by kernel_rfl
theorem Jqh:XD Tryz.prog 39=true:=by kernel_rfl
theorem JkK:Jr Tryz.prog 39 0=true:=by kernel_rfl
theorem Jqv:tOff Tryz.prog 39 0=0:=by kernel_rfl
theorem Jq2:tFld Tryz.prog 39 0=3:=by kernel_rfl
theorem JlW:Jr Tryz.prog 39 1=true:=by kernel_rfl
theorem JqE:tOff Tryz.prog 39 1=1:=by kernel_rfl
theorem Jsx:tFld Tryz.prog 39 1=3:=by kernel_rfl
theorem Jlb:Jr Tryz.prog 39 2=true:=by kernel_rfl
theorem Jse:tOff Tryz.prog 39 2=2:=by kernel_rfl
theorem Jqc:tFld Tryz.prog 39 2=3:=by kernel_rfl
theorem JpN:JI Tryz.prog 41=true:=by kernel_rfl
theorem JuX:Jq Tryz.prog 41=1:=by kernel_rfl
theorem JwW:tAgg Tryz.prog 41=false:=by kernel_rfl
theorem JxJ:tZok Tryz.prog 41=true:=by kernel_rfl
theorem JB8:tZ Tryz.prog 41=[.slice none 0 0]:=by kernel_rfl
theorem Jyz:tCS Tryz.prog 41=[1]:=by kernel_rfl
theorem Jre:Vp Tryz.prog 41=24:=by kernel_rfl
theorem Jtu:Jci Tryz.prog 41=1:=by kernel_rfl
theorem JsG:JH Tryz.prog 41=true:=by kernel_rfl
theorem Jvr:Jt Tryz.prog 41=9:=by kernel_rfl
theorem JrB:Jct 41=false:=by kernel_rfl
theorem Jt4:Z6 41=true:=by kernel_rfl
theorem Jru:JI Tryz.prog 42=true:=by kernel_rfl
theorem Jvn:Jq Tryz.prog 42=1:=by kernel_rfl
theorem JwY:tAgg Tryz.prog 42=false:=by kernel_rfl
theorem JwU:tZok Tryz.prog 42=true:=by kernel_rfl
theorem JBV:tZ Tryz.prog 42=[.slice none 0 0]:=by kernel_rfl
theorem JyV:tCS Tryz.prog 42=[3]:=by kernel_rfl
theorem Jq9:Vp Tryz.prog 42=24:=by kernel_rfl
theorem JtL:Jci Tryz.prog 42=1:=by kernel_rfl
theorem JqZ:JH Tryz.prog 42=true:=by kernel_rfl
theorem Jvv:Jt Tryz.prog 42=198:=by kernel_rfl
theorem JpR:Jct 42=false:=by kernel_rfl
theorem Jvw:Z6 42=false:=by kernel_rfl
theorem Jsw:JI Tryz.prog 44=true:=by kernel_rfl
theorem JtI:Jq Tryz.prog 44=11:=by kernel_rfl
theorem Jxm:tAgg Tryz.prog 44=true:=by kernel_rfl
theorem JwM:tZok Tryz.prog 44=true:=by kernel_rfl
theorem JBU:tZ Tryz.prog 44=[.int .i64 0,str [],.bool false,.bool false,.int .i64 0,.int .i64 0,.int .i64 0,.int .i64 0,.slice none 0 0,.slice none 0 0,.int .i64 0]:=by kernel_rfl
theorem Jyu:tCS Tryz.prog 44=[0,0,0,0,0,0,0,0,1,3,0]:=by kernel_rfl
theorem JrK:Vp Tryz.prog 44=120:=by kernel_rfl
theorem Jrg:XD Tryz.prog 44=true:=by kernel_rfl
theorem JkM:Jr Tryz.prog 44 0=true:=by kernel_rfl
theorem Jqm:tOff Tryz.prog 44 0=0:=by kernel_rfl
theorem JpV:tFld Tryz.prog 44 0=3:=by kernel_rfl
theorem JkE:Jr Tryz.prog 44 1=true:=by kernel_rfl
theorem Jsl:tOff Tryz.prog 44 1=1:=by kernel_rfl
theorem Jrm:tFld Tryz.prog 44 1=9:=by kernel_rfl
theorem JkF:Jr Tryz.prog 44 2=true:=by kernel_rfl
theorem JsT:tOff Tryz.prog 44 2=2:=by kernel_rfl
theorem Jqe:tFld Tryz.prog 44 2=4:=by kernel_rfl
theorem JlA:Jr Tryz.prog 44 3=true:=by kernel_rfl
theorem Jqy:tOff Tryz.prog 44 3=3:=by kernel_rfl
theorem Jrq:tFld Tryz.prog 44 3=4:=by kernel_rfl
theorem JlT:Jr Tryz.prog 44 4=true:=by kernel_rfl
theorem JrR:tOff Tryz.prog 44 4=4:=by kernel_rfl
theorem JqX:tFld Tryz.prog 44 4=3:=by kernel_rfl
theorem Jlu:Jr Tryz.prog 44 5=true:=by kernel_rfl
theorem Jr7:tOff Tryz.prog 44 5=5:=by kernel_rfl
theorem JsB:tFld Tryz.prog 44 5=3:=by kernel_rfl
theorem JlO:Jr Tryz.prog 44 6=true:=by kernel_rfl
theorem JsN:tOff Tryz.prog 44 6=6:=by kernel_rfl
theorem Jr4:tFld Tryz.prog 44 6=3:=by kernel_rfl
theorem JkQ:Jr Tryz.prog 44 7=true:=by kernel_rfl
theorem JsS:tOff Tryz.prog 44 7=7:=by kernel_rfl
theorem Jr0:tFld Tryz.prog 44 7=3:=by kernel_rfl
theorem Jks:Jr Tryz.prog 44 8=true:=by kernel_rfl
theorem JsM:tOff Tryz.prog 44 8=8:=by kernel_rfl
theorem JrS:tFld Tryz.prog 44 8=41:=by kernel_rfl
theorem Jls:Jr Tryz.prog 44 9=true:=by kernel_rfl
theorem JpS:tOff Tryz.prog 44 9=9:=by kernel_rfl
theorem Jqd:tFld Tryz.prog 44 9=42:=by kernel_rfl
theorem Jj2:Jr Tryz.prog 44 10=true:=by kernel_rfl
theorem JnM:tOff Tryz.prog 44 10=10:=by kernel_rfl
theorem Jof:tFld Tryz.prog 44 10=3:=by kernel_rfl
theorem JsC:JI Tryz.prog 55=true:=by kernel_rfl
theorem Jt3:Jq Tryz.prog 55=1:=by kernel_rfl
theorem JxG:tAgg Tryz.prog 55=false:=by kernel_rfl
theorem JAb:tCS Tryz.prog 55=[1]:=by kernel_rfl
theorem Jqi:JH Tryz.prog 55=true:=by kernel_rfl
theorem Ju2:Jt Tryz.prog 55=5:=by kernel_rfl
theorem Jq5:Jct 55=false:=by kernel_rfl
theorem JuV:Z6 55=true:=by kernel_rfl
theorem Jsu:JI Tryz.prog 63=true:=by kernel_rfl
theorem JuR:Jq Tryz.prog 63=5:=by kernel_rfl
theorem Jxp:tAgg Tryz.prog 63=true:=by kernel_rfl
theorem JxM:tZok Tryz.prog 63=true:=by kernel_rfl
theorem JB3:tZ Tryz.prog 63=[str [],.bool false,.slice none 0 0,.bool false,.slice none 0 0]:=by kernel_rfl
theorem Jzl:tCS Tryz.prog 63=[0,0,1,0,11]:=by kernel_rfl
theorem Jrs:Vp Tryz.prog 63=80:=by kernel_rfl
theorem JqA:XD Tryz.prog 63=true:=by kernel_rfl
theorem JkV:Jr Tryz.prog 63 0=true:=by kernel_rfl
theorem JrV:tOff Tryz.prog 63 0=0:=by kernel_rfl
theorem Jry:tFld Tryz.prog 63 0=9:=by kernel_rfl
theorem JlD:Jr Tryz.prog 63 1=true:=by kernel_rfl
theorem Jp8:tOff Tryz.prog 63 1=1:=by kernel_rfl
theorem JrD:tFld Tryz.prog 63 1=4:=by kernel_rfl
theorem Jk5:Jr Tryz.prog 63 2=true:=by kernel_rfl
theorem Jq0:tOff Tryz.prog 63 2=2:=by kernel_rfl
theorem Jqp:tFld Tryz.prog 63 2=41:=by kernel_rfl
theorem JlV:Jr Tryz.prog 63 3=true:=by kernel_rfl
theorem Jsc:tOff Tryz.prog 63 3=3:=by kernel_rfl
theorem Jp3:tFld Tryz.prog 63 3=4:=by kernel_rfl
theorem JkI:Jr Tryz.prog 63 4=true:=by kernel_rfl
theorem JpK:tOff Tryz.prog 63 4=4:=by kernel_rfl
theorem Jrl:tFld Tryz.prog 63 4=24:=by kernel_rfl
theorem JwA:tZok Tryz.prog 65=true:=by kernel_rfl
theorem JBP:tZ Tryz.prog 65=[.slice none 0 0,.int .i64 0,.int .i64 0,.int .i64 0,.slice none 0 0,.slice none 0 0,.slice none 0 0,.slice none 0 0,.int .i64 0]:=by kernel_rfl
theorem Jyx:tCS Tryz.prog 65=[2,0,0,0,5,1,11,1,0]:=by kernel_rfl
theorem Jrv:XD Tryz.prog 65=true:=by kernel_rfl
theorem Jlj:Jr Tryz.prog 65 0=true:=by kernel_rfl
theorem Jrw:tOff Tryz.prog 65 0=0:=by kernel_rfl
theorem Jr8:tFld Tryz.prog 65 0=37:=by kernel_rfl
theorem Jkz:Jr Tryz.prog 65 1=true:=by kernel_rfl
theorem Jss:tOff Tryz.prog 65 1=1:=by kernel_rfl
theorem Jqb:tFld Tryz.prog 65 1=39:=by kernel_rfl
theorem Jk2:Jr Tryz.prog 65 2=true:=by kernel_rfl
theorem Jql:tOff Tryz.prog 65 2=4:=by kernel_rfl
theorem Jrp:tFld Tryz.prog 65 2=28:=by kernel_rfl
theorem Jk7:Jr Tryz.prog 65 3=true:=by kernel_rfl
theorem JqV:tOff Tryz.prog 65 3=5:=by kernel_rfl
theorem Jsk:tFld Tryz.prog 65 3=25:=by kernel_rfl
theorem Jlv:Jr Tryz.prog 65 4=true:=by kernel_rfl
theorem Jqx:tOff Tryz.prog 65 4=6:=by kernel_rfl
theorem Jrn:tFld Tryz.prog 65 4=27:=by kernel_rfl
theorem JkX:Jr Tryz.prog 65 5=true:=by kernel_rfl
theorem JrG:tOff Tryz.prog 65 5=8:=by kernel_rfl
theorem Jsf:tFld Tryz.prog 65 5=3:=by kernel_rfl
theorem JrH:JI Tryz.prog 70=true:=by kernel_rfl
theorem JtM:Jq Tryz.prog 70=2:=by kernel_rfl
theorem JxK:tAgg Tryz.prog 70=true:=by kernel_rfl
theorem JwL:tZok Tryz.prog 70=true:=by kernel_rfl
theorem JBW:tZ Tryz.prog 70=[str [],.slice none 0 0]:=by kernel_rfl
theorem Jz3:tCS Tryz.prog 70=[0,1]:=by kernel_rfl
theorem JqT:XD Tryz.prog 70=true:=by kernel_rfl
theorem Jlc:Jr Tryz.prog 70 0=true:=by kernel_rfl
theorem Jsa:tOff Tryz.prog 70 0=0:=by kernel_rfl
theorem Jqu:tFld Tryz.prog 70 0=9:=by kernel_rfl
theorem JkT:Jr Tryz.prog 70 1=true:=by kernel_rfl
theorem Jsq:tOff Tryz.prog 70 1=1:=by kernel_rfl
theorem Jsg:tFld Tryz.prog 70 1=25:=by kernel_rfl
theorem JpO:JI Tryz.prog 78=true:=by kernel_rfl
theorem Jt6:Jq Tryz.prog 78=3:=by kernel_rfl
theorem Jxv:tAgg Tryz.prog 78=true:=by kernel_rfl
theorem JwB:tZok Tryz.prog 78=true:=by kernel_rfl
theorem JB2:tZ Tryz.prog 78=[.int .i64 0,.int .i64 0,.int .i64 0]:=by kernel_rfl
theorem Jyt:tCS Tryz.prog 78=[0,0,0]:=by kernel_rfl
theorem JmC:Jcb Tryz.prog 78=true:=by kernel_rfl
theorem JpP:XD Tryz.prog 78=true:=by kernel_rfl
theorem JkD:Jr Tryz.prog 78 0=true:=by kernel_rfl
theorem JrE:tOff Tryz.prog 78 0=0:=by kernel_rfl
theorem Jqn:tFld Tryz.prog 78 0=31:=by kernel_rfl
theorem JsW:JH Tryz.prog 80=true:=by kernel_rfl
theorem JuP:Jt Tryz.prog 80=90:=by kernel_rfl
theorem JrF:Jct 80=true:=by kernel_rfl
theorem JuH:Z6 80=true:=by kernel_rfl
theorem JqQ:JH Tryz.prog 81=true:=by kernel_rfl
theorem Jtv:Jt Tryz.prog 81=24:=by kernel_rfl
theorem Jsv:Jct 81=false:=by kernel_rfl
theorem JtH:Z6 81=true:=by kernel_rfl
theorem JqU:JI Tryz.prog 90=true:=by kernel_rfl
theorem JtT:Jq Tryz.prog 90=14:=by kernel_rfl
theorem Jwv:tAgg Tryz.prog 90=true:=by kernel_rfl
theorem Jw0:tZok Tryz.prog 90=true:=by kernel_rfl
theorem JBZ:tZ Tryz.prog 90=[.bool false,.bool false,.bool false,.int .i64 0,str [],.bool false,.bool false,.int .i64 0,.int .i64 0,.int .i64 0,.int .i64 0,.slice none 0 0,.slice none 0 0,.int .i64 0]:=by kernel_rfl
theorem Jzt:tCS Tryz.prog 90=[0,0,0,0,0,0,0,0,0,0,0,1,3,0]:=by kernel_rfl
theorem Jrx:Vp Tryz.prog 90=128:=by kernel_rfl
theorem JqF:XD Tryz.prog 90=true:=by kernel_rfl
theorem Jkx:Jr Tryz.prog 90 0=true:=by kernel_rfl
theorem Jsh:tOff Tryz.prog 90 0=0:=by kernel_rfl
theorem JqR:tFld Tryz.prog 90 0=4:=by kernel_rfl
theorem Jlh:Jr Tryz.prog 90 1=true:=by kernel_rfl
theorem JpZ:tOff Tryz.prog 90 1=1:=by kernel_rfl
theorem JrN:tFld Tryz.prog 90 1=4:=by kernel_rfl
theorem Jlq:Jr Tryz.prog 90 2=true:=by kernel_rfl
theorem JpM:tOff Tryz.prog 90 2=2:=by kernel_rfl
theorem Jq7:tFld Tryz.prog 90 2=4:=by kernel_rfl
theorem JlX:Jr Tryz.prog 90 3=true:=by kernel_rfl
theorem JsI:tOff Tryz.prog 90 3=3:=by kernel_rfl
theorem JpT:tFld Tryz.prog 90 3=44:=by kernel_rfl
theorem Jxi:tZok Tryz.prog 99=true:=by kernel_rfl
theorem JBL:tZ Tryz.prog 99=[str [],.slice none 0 0,str [],.int .i64 0,.int .i64 0,.slice none 0 0]:=by kernel_rfl
theorem Jz7:tCS Tryz.prog 99=[0,1,0,0,0,11]:=by kernel_rfl
theorem Jro:XD Tryz.prog 99=true:=by kernel_rfl
theorem JlU:Jr Tryz.prog 99 0=true:=by kernel_rfl
theorem Jqg:tOff Tryz.prog 99 0=0:=by kernel_rfl
theorem Jp4:tFld Tryz.prog 99 0=70:=by kernel_rfl
theorem Jk4:Jr Tryz.prog 99 1=true:=by kernel_rfl
theorem JrP:tOff Tryz.prog 99 1=2:=by kernel_rfl
theorem Jrk:tFld Tryz.prog 99 1=9:=by kernel_rfl
theorem JkW:Jr Tryz.prog 99 2=true:=by kernel_rfl
theorem JpL:tOff Tryz.prog 99 2=3:=by kernel_rfl
theorem Jrd:tFld Tryz.prog 99 2=3:=by kernel_rfl
theorem JkB:Jr Tryz.prog 99 3=true:=by kernel_rfl
theorem JrJ:tOff Tryz.prog 99 3=4:=by kernel_rfl
theorem JrA:tFld Tryz.prog 99 3=3:=by kernel_rfl
theorem JkN:Jr Tryz.prog 99 4=true:=by kernel_rfl
theorem JqN:tOff Tryz.prog 99 4=5:=by kernel_rfl
theorem Jp9:tFld Tryz.prog 99 4=24:=by kernel_rfl
theorem JtP:tZok Tryz.prog 155=true:=by kernel_rfl
theorem JyE:tZ Tryz.prog 155=[.slice none 0 0,.slice none 0 0,.int .i64 0,.int .i64 0]:=by kernel_rfl
theorem Jw2:tCS Tryz.prog 155=[5,2,0,0]:=by kernel_rfl
theorem JoS:XD Tryz.prog 155=true:=by kernel_rfl
theorem JjY:Jr Tryz.prog 155 0=true:=by kernel_rfl
theorem JoO:tOff Tryz.prog 155 0=0:=by kernel_rfl
theorem JoE:tFld Tryz.prog 155 0=28:=by kernel_rfl
theorem JjZ:Jr Tryz.prog 155 1=true:=by kernel_rfl
theorem JoT:tOff Tryz.prog 155 1=1:=by kernel_rfl
theorem Jn7:tFld Tryz.prog 155 1=37:=by kernel_rfl
theorem Jj4:Jr Tryz.prog 155 2=true:=by kernel_rfl
theorem JnE:tOff Tryz.prog 155 2=2:=by kernel_rfl
theorem Job:tFld Tryz.prog 155 2=3:=by kernel_rfl
theorem JjX:Jr Tryz.prog 155 3=true:=by kernel_rfl
theorem Jnn:tOff Tryz.prog 155 3=3:=by kernel_rfl
theorem JoB:tFld Tryz.prog 155 3=3:=by kernel_rfl
theorem Jm0:JI Tryz.prog 156=true:=by kernel_rfl
theorem Jsz:Jq Tryz.prog 156=3:=by kernel_rfl
theorem Jum:tAgg Tryz.prog 156=true:=by kernel_rfl
theorem JtD:tZok Tryz.prog 156=true:=by kernel_rfl
theorem Jzw:tZ Tryz.prog 156=[.int .i64 0,.int .i64 0,.int .i64 0]:=by kernel_rfl
theorem JxO:tCS Tryz.prog 156=[0,0,0]:=by kernel_rfl
theorem Jk0:Jcb Tryz.prog 156=true:=by kernel_rfl
theorem Jnz:XD Tryz.prog 156=true:=by kernel_rfl
theorem JjW:Jr Tryz.prog 156 0=true:=by kernel_rfl
theorem Jov:tOff Tryz.prog 156 0=0:=by kernel_rfl
theorem JoL:tFld Tryz.prog 156 0=31:=by kernel_rfl
theorem Jox:JI Tryz.prog 157=true:=by kernel_rfl
theorem JsP:Jq Tryz.prog 157=1:=by kernel_rfl
theorem JtJ:tAgg Tryz.prog 157=false:=by kernel_rfl
theorem JxE:tCS Tryz.prog 157=[0]:=by kernel_rfl
theorem JvL:tZok Tryz.prog 159=true:=by kernel_rfl
theorem JyI:tZ Tryz.prog 159=[.slice none 0 0,.int .i64 0,.int .i64 0,.int .i64 0]:=by kernel_rfl
theorem Jxa:tCS Tryz.prog 159=[11,0,0,0]:=by kernel_rfl
theorem Jm9:XD Tryz.prog 159=true:=by kernel_rfl
theorem JjS:Jr Tryz.prog 159 0=true:=by kernel_rfl
theorem Jn3:tOff Tryz.prog 159 0=0:=by kernel_rfl
theorem JnZ:tFld Tryz.prog 159 0=24:=by kernel_rfl
theorem Jkc:Jr Tryz.prog 159 1=true:=by kernel_rfl
theorem Jn2:tOff Tryz.prog 159 1=1:=by kernel_rfl
theorem Jn5:tFld Tryz.prog 159 1=3:=by kernel_rfl
theorem Jj7:Jr Tryz.prog 159 2=true:=by kernel_rfl
theorem JnT:tOff Tryz.prog 159 2=2:=by kernel_rfl
theorem JoD:tFld Tryz.prog 159 2=3:=by kernel_rfl
theorem JjP:Jr Tryz.prog 159 3=true:=by kernel_rfl
theorem JnP:tOff Tryz.prog 159 3=3:=by kernel_rfl
theorem Joo:tFld Tryz.prog 159 3=3:=by kernel_rfl
theorem Jni:JI Tryz.prog 170=true:=by kernel_rfl
theorem JqK:Jq Tryz.prog 170=3:=by kernel_rfl
theorem Jur:tAgg Tryz.prog 170=true:=by kernel_rfl
theorem JtC:tZok Tryz.prog 170=true:=by kernel_rfl
theorem JyP:tZ Tryz.prog 170=[.int .i64 0,.int .i64 0,.int .i64 0]:=by kernel_rfl
theorem Jww:tCS Tryz.prog 170=[0,0,0]:=by kernel_rfl
theorem Jkt:Jcb Tryz.prog 170=true:=by kernel_rfl
theorem Jnb:XD Tryz.prog 170=true:=by kernel_rfl
theorem JjT:Jr Tryz.prog 170 0=true:=by kernel_rfl
theorem Jnx:tOff Tryz.prog 170 0=0:=by kernel_rfl
theorem Jn4:tFld Tryz.prog 170 0=31:=by kernel_rfl
theorem Jny:JI Tryz.prog 171=true:=by kernel_rfl
theorem Jsi:Jq Tryz.prog 171=1:=by kernel_rfl
theorem JvI:tAgg Tryz.prog 171=false:=by kernel_rfl
theorem Jva:tZok Tryz.prog 171=true:=by kernel_rfl
theorem Jz0:tZ Tryz.prog 171=[.slice none 0 0]:=by kernel_rfl
theorem Jw1:tCS Tryz.prog 171=[11]:=by kernel_rfl
theorem Jrc:Jci Tryz.prog 171=1:=by kernel_rfl
theorem Jok:JH Tryz.prog 171=true:=by kernel_rfl
theorem Jri:Jt Tryz.prog 171=44:=by kernel_rfl
theorem Jn6:Jct 171=true:=by kernel_rfl
theorem JqG:Z6 171=true:=by kernel_rfl
theorem JnK:JI Tryz.prog 178=true:=by kernel_rfl
theorem Jp6:Jq Tryz.prog 178=2:=by kernel_rfl
theorem JtZ:tAgg Tryz.prog 178=true:=by kernel_rfl
theorem JnJ:XD Tryz.prog 178=true:=by kernel_rfl
theorem Jrr:Jtl Tryz.prog 178=2:=by kernel_rfl
theorem JtX:tAEl Tryz.prog 178=3:=by kernel_rfl
theorem JvO:tAOk Tryz.prog 178=true:=by kernel_rfl
theorem Jut:tZok Tryz.prog 178=true:=by kernel_rfl
theorem Jzn:tZ Tryz.prog 178=[.int .i64 0,.int .i64 0]:=by kernel_rfl
theorem Jxe:tCS Tryz.prog 178=[0]:=by kernel_rfl
theorem Joi:JI Tryz.prog 198=true:=by kernel_rfl
theorem JpW:Jq Tryz.prog 198=3:=by kernel_rfl
theorem JvE:tAgg Tryz.prog 198=true:=by kernel_rfl
theorem Juj:tZok Tryz.prog 198=true:=by kernel_rfl
theorem Jzf:tZ Tryz.prog 198=[str [],.int .i64 0,.int .i64 0]:=by kernel_rfl
theorem Jxw:tCS Tryz.prog 198=[0,0,0]:=by kernel_rfl
theorem Jm6:Vp Tryz.prog 198=32:=by kernel_rfl
theorem JoY:XD Tryz.prog 198=true:=by kernel_rfl
theorem Jka:Jr Tryz.prog 198 0=true:=by kernel_rfl
theorem JoU:tOff Tryz.prog 198 0=0:=by kernel_rfl
theorem Jm2:tFld Tryz.prog 198 0=9:=by kernel_rfl
theorem Jj9:Jr Tryz.prog 198 1=true:=by kernel_rfl
theorem Jot:tOff Tryz.prog 198 1=1:=by kernel_rfl
theorem JoX:tFld Tryz.prog 198 1=3:=by kernel_rfl
theorem Jj0:Jr Tryz.prog 198 2=true:=by kernel_rfl
theorem JoG:tOff Tryz.prog 198 2=2:=by kernel_rfl
theorem JnQ:tFld Tryz.prog 198 2=3:=by kernel_rfl
theorem JoH:JI Tryz.prog 210=true:=by kernel_rfl
theorem JrX:Jq Tryz.prog 210=1:=by kernel_rfl
theorem JvJ:tAgg Tryz.prog 210=false:=by kernel_rfl
theorem JxD:tCS Tryz.prog 210=[0]:=by kernel_rfl
theorem Jq1:Jci Tryz.prog 210=4:=by kernel_rfl
theorem Jnj:JH Tryz.prog 224=true:=by kernel_rfl
theorem Jp1:Jt Tryz.prog 224=41:=by kernel_rfl
theorem Jm8:JH Tryz.prog 227=true:=by kernel_rfl
theorem JrQ:Jt Tryz.prog 227=42:=by kernel_rfl
theorem y_3:((((type_of% @Tryz.underlying3)∧(type_of% @Jzu))∧((type_of% @JtW)∧(type_of% @JBJ)))∧(((type_of% @Jvl)∧(type_of% @JxF))∧((type_of% @tZ_3)∧(type_of% @JzI)))):=⟨⟨⟨@Tryz.underlying3,@Jzu⟩,⟨@JtW,@JBJ⟩⟩,⟨⟨@Jvl,@JxF⟩,⟨@tZ_3,@JzI⟩⟩⟩
theorem y_4:((((type_of% @Tryz.underlying4)∧(type_of% @JzV))∧((type_of% @JuO)∧(type_of% @JBK)))∧(((type_of% @Juq)∧(type_of% @JwZ))∧((type_of% @tZ_4)∧(type_of% @Jzq)))):=⟨⟨⟨@Tryz.underlying4,@JzV⟩,⟨@JuO,@JBK⟩⟩,⟨⟨@Juq,@JwZ⟩,⟨@tZ_4,@Jzq⟩⟩⟩
theorem y_5:((((type_of% @Tryz.underlying5)∧(type_of% @Jzg))∧((type_of% @JuG)∧(type_of% @JBQ)))∧(((type_of% @Jub)∧(type_of% @Jxo))∧((type_of% @JB9)∧((type_of% @tZ_5)∧(type_of% @Jz5))))):=⟨⟨⟨@Tryz.underlying5,@Jzg⟩,⟨@JuG,@JBQ⟩⟩,⟨⟨@Jub,@Jxo⟩,⟨@JB9,⟨@tZ_5,@Jz5⟩⟩⟩⟩
theorem y_9:((((type_of% @Tryz.underlying9)∧(type_of% @JyH))∧((type_of% @Jvt)∧(type_of% @JBM)))∧(((type_of% @JuF)∧(type_of% @Jnd))∧((type_of% @Jw9)∧((type_of% @tZ_9)∧(type_of% @Jz9))))):=⟨⟨⟨@Tryz.underlying9,@JyH⟩,⟨@Jvt,@JBM⟩⟩,⟨⟨@JuF,@Jnd⟩,⟨@Jw9,⟨@tZ_9,@Jz9⟩⟩⟩⟩
theorem y_20:((type_of% @Jvi)∧(type_of% @JvC)):=⟨@Jvi,@JvC⟩
theorem y_24:((((type_of% @JrC)∧((type_of% @Jun)∧(type_of% @JwQ)))∧((type_of% @Jqf)∧((type_of% @JyF)∧(type_of% @Jt8))))∧(((type_of% @JsQ)∧((type_of% @JuS)∧(type_of% @JuE)))∧((type_of% @Jr2)∧((type_of% @JCa)∧(type_of% @JwO))))):=⟨⟨⟨@JrC,⟨@Jun,@JwQ⟩⟩,⟨@Jqf,⟨@JyF,@Jt8⟩⟩⟩,⟨⟨@JsQ,⟨@JuS,@JuE⟩⟩,⟨@Jr2,⟨@JCa,@JwO⟩⟩⟩⟩
theorem y_25:((((type_of% @JsJ)∧(type_of% @JuB))∧((type_of% @JwE)∧(type_of% @Jy7)))∧(((type_of% @Juv)∧(type_of% @Jrj))∧((type_of% @Ju0)∧(type_of% @Jsb)))):=⟨⟨⟨@JsJ,@JuB⟩,⟨@JwE,@Jy7⟩⟩,⟨⟨@Juv,@Jrj⟩,⟨@Ju0,@Jsb⟩⟩⟩
theorem y_27:((((type_of% @Jxr)∧((type_of% @Jyw)∧(type_of% @JsO)))∧((type_of% @JrL)∧((type_of% @Jq4)∧(type_of% @Jqj))))∧(((type_of% @JqO)∧((type_of% @Jr6)∧(type_of% @Jtz)))∧(((type_of% @JkC)∧(type_of% @JlM))∧((type_of% @JBR)∧(type_of% @Jwu))))):=⟨⟨⟨@Jxr,⟨@Jyw,@JsO⟩⟩,⟨@JrL,⟨@Jq4,@Jqj⟩⟩⟩,⟨⟨@JqO,⟨@Jr6,@Jtz⟩⟩,⟨⟨@JkC,@JlM⟩,⟨@JBR,@Jwu⟩⟩⟩⟩
theorem y_28:((((type_of% @Jsy)∧(type_of% @Jtt))∧((type_of% @Jw5)∧((type_of% @JyX)∧(type_of% @Jvy))))∧(((type_of% @JqB)∧((type_of% @JvD)∧(type_of% @Jug)))∧((type_of% @Jqo)∧((type_of% @JB0)∧(type_of% @JwH))))):=⟨⟨⟨@Jsy,@Jtt⟩,⟨@Jw5,⟨@JyX,@Jvy⟩⟩⟩,⟨⟨@JqB,⟨@JvD,@Jug⟩⟩,⟨@Jqo,⟨@JB0,@JwH⟩⟩⟩⟩
theorem y_29:(((type_of% @Jw8)∧(type_of% @Jz4))∧((type_of% @JpX)∧(type_of% @Jt7))):=⟨⟨@Jw8,@Jz4⟩,⟨@JpX,@Jt7⟩⟩
theorem y_31:(((((type_of% @Jw7)∧(type_of% @Jy4))∧((type_of% @Jp2)∧(type_of% @JsL)))∧(((type_of% @JrO)∧(type_of% @Jq8))∧((type_of% @Jsd)∧(type_of% @JsE))))∧((((type_of% @Jr3)∧(type_of% @Jsn))∧((type_of% @JtV)∧(type_of% @JkP)))∧(((type_of% @Jly)∧(type_of% @JlK))∧((type_of% @JB1)∧(type_of% @Jxl))))):=⟨⟨⟨⟨@Jw7,@Jy4⟩,⟨@Jp2,@JsL⟩⟩,⟨⟨@JrO,@Jq8⟩,⟨@Jsd,@JsE⟩⟩⟩,⟨⟨⟨@Jr3,@Jsn⟩,⟨@JtV,@JkP⟩⟩,⟨⟨@Jly,@JlK⟩,⟨@JB1,@Jxl⟩⟩⟩⟩
theorem y_35:((((type_of% @Jxh)∧((type_of% @JsK)∧(type_of% @Jy5)))∧(((type_of% @Jr1)∧(type_of% @Jrt))∧((type_of% @JqI)∧(type_of% @JpJ))))∧(((type_of% @Jp5)∧((type_of% @Jsm)∧(type_of% @JuY)))∧(((type_of% @Jlz)∧(type_of% @Jlp))∧((type_of% @JB7)∧(type_of% @Jwx))))):=⟨⟨⟨@Jxh,⟨@JsK,@Jy5⟩⟩,⟨⟨@Jr1,@Jrt⟩,⟨@JqI,@JpJ⟩⟩⟩,⟨⟨@Jp5,⟨@Jsm,@JuY⟩⟩,⟨⟨@Jlz,@Jlp⟩,⟨@JB7,@Jwx⟩⟩⟩⟩
theorem y_37:((((type_of% @JqD)∧(type_of% @JuT))∧((type_of% @JxI)∧(type_of% @JyK)))∧(((type_of% @JtK)∧(type_of% @JqS))∧((type_of% @Jvj)∧(type_of% @Jq6)))):=⟨⟨⟨@JqD,@JuT⟩,⟨@JxI,@JyK⟩⟩,⟨⟨@JtK,@JqS⟩,⟨@Jvj,@Jq6⟩⟩⟩
theorem y_39:(((((type_of% @Jxf)∧(type_of% @Jzk))∧((type_of% @Jq2)∧(type_of% @Jsx)))∧(((type_of% @Jqc)∧(type_of% @Jrz))∧((type_of% @Jqv)∧(type_of% @JqE))))∧((((type_of% @Jse)∧(type_of% @Jqh))∧((type_of% @Juf)∧(type_of% @JkK)))∧(((type_of% @JlW)∧(type_of% @Jlb))∧((type_of% @JB6)∧(type_of% @JwV))))):=⟨⟨⟨⟨@Jxf,@Jzk⟩,⟨@Jq2,@Jsx⟩⟩,⟨⟨@Jqc,@Jrz⟩,⟨@Jqv,@JqE⟩⟩⟩,⟨⟨⟨@Jse,@Jqh⟩,⟨@Juf,@JkK⟩⟩,⟨⟨@JlW,@Jlb⟩,⟨@JB6,@JwV⟩⟩⟩⟩
theorem y_41:((((type_of% @JrB)∧((type_of% @Jt4)∧(type_of% @JwW)))∧((type_of% @Jre)∧((type_of% @Jyz)∧(type_of% @Jvr))))∧(((type_of% @JpN)∧((type_of% @Jtu)∧(type_of% @JuX)))∧((type_of% @JsG)∧((type_of% @JB8)∧(type_of% @JxJ))))):=⟨⟨⟨@JrB,⟨@Jt4,@JwW⟩⟩,⟨@Jre,⟨@Jyz,@Jvr⟩⟩⟩,⟨⟨@JpN,⟨@Jtu,@JuX⟩⟩,⟨@JsG,⟨@JB8,@JxJ⟩⟩⟩⟩
theorem y_42:((((type_of% @JpR)∧((type_of% @Jvw)∧(type_of% @JwY)))∧((type_of% @Jq9)∧((type_of% @JyV)∧(type_of% @Jvv))))∧(((type_of% @Jru)∧((type_of% @JtL)∧(type_of% @Jvn)))∧((type_of% @JqZ)∧((type_of% @JBV)∧(type_of% @JwU))))):=⟨⟨⟨@JpR,⟨@Jvw,@JwY⟩⟩,⟨@Jq9,⟨@JyV,@Jvv⟩⟩⟩,⟨⟨@Jru,⟨@JtL,@Jvn⟩⟩,⟨@JqZ,⟨@JBV,@JwU⟩⟩⟩⟩
theorem y_44:((((((type_of% @Jxm)∧(type_of% @JrK))∧((type_of% @Jyu)∧((type_of% @JpV)∧(type_of% @Jrm))))∧(((type_of% @Jof)∧(type_of% @Jqe))∧((type_of% @Jrq)∧((type_of% @JqX)∧(type_of% @JsB)))))∧((((type_of% @Jr4)∧(type_of% @Jr0))∧((type_of% @JrS)∧((type_of% @Jqd)∧(type_of% @Jsw))))∧(((type_of% @Jqm)∧(type_of% @Jsl))∧((type_of% @JnM)∧((type_of% @JsT)∧(type_of% @Jqy))))))∧(((((type_of% @JrR)∧(type_of% @Jr7))∧((type_of% @JsN)∧((type_of% @JsS)∧(type_of% @JsM))))∧(((type_of% @JpS)∧(type_of% @Jrg))∧((type_of% @JtI)∧((type_of% @JkM)∧(type_of% @JkE)))))∧((((type_of% @Jj2)∧(type_of% @JkF))∧((type_of% @JlA)∧((type_of% @JlT)∧(type_of% @Jlu))))∧(((type_of% @JlO)∧((type_of% @JkQ)∧(type_of% @Jks)))∧((type_of% @Jls)∧((type_of% @JBU)∧(type_of% @JwM))))))):=⟨⟨⟨⟨⟨@Jxm,@JrK⟩,⟨@Jyu,⟨@JpV,@Jrm⟩⟩⟩,⟨⟨@Jof,@Jqe⟩,⟨@Jrq,⟨@JqX,@JsB⟩⟩⟩⟩,⟨⟨⟨@Jr4,@Jr0⟩,⟨@JrS,⟨@Jqd,@Jsw⟩⟩⟩,⟨⟨@Jqm,@Jsl⟩,⟨@JnM,⟨@JsT,@Jqy⟩⟩⟩⟩⟩,⟨⟨⟨⟨@JrR,@Jr7⟩,⟨@JsN,⟨@JsS,@JsM⟩⟩⟩,⟨⟨@JpS,@Jrg⟩,⟨@JtI,⟨@JkM,@JkE⟩⟩⟩⟩,⟨⟨⟨@Jj2,@JkF⟩,⟨@JlA,⟨@JlT,@Jlu⟩⟩⟩,⟨⟨@JlO,⟨@JkQ,@Jks⟩⟩,⟨@Jls,⟨@JBU,@JwM⟩⟩⟩⟩⟩⟩
theorem y_55:((((type_of% @Tryz.underlying55)∧(type_of% @Jq5))∧((type_of% @JuV)∧(type_of% @JxG)))∧(((type_of% @JAb)∧(type_of% @Ju2))∧((type_of% @JsC)∧((type_of% @Jt3)∧(type_of% @Jqi))))):=⟨⟨⟨@Tryz.underlying55,@Jq5⟩,⟨@JuV,@JxG⟩⟩,⟨⟨@JAb,@Ju2⟩,⟨@JsC,⟨@Jt3,@Jqi⟩⟩⟩⟩
theorem y_63:(((((type_of% @Jxp)∧(type_of% @Jrs))∧((type_of% @Jzl)∧((type_of% @Jry)∧(type_of% @JrD))))∧(((type_of% @Jqp)∧((type_of% @Jp3)∧(type_of% @Jrl)))∧((type_of% @Jsu)∧((type_of% @JrV)∧(type_of% @Jp8)))))∧((((type_of% @Jq0)∧((type_of% @Jsc)∧(type_of% @JpK)))∧((type_of% @JqA)∧((type_of% @JuR)∧(type_of% @JkV))))∧(((type_of% @JlD)∧((type_of% @Jk5)∧(type_of% @JlV)))∧((type_of% @JkI)∧((type_of% @JB3)∧(type_of% @JxM)))))):=⟨⟨⟨⟨@Jxp,@Jrs⟩,⟨@Jzl,⟨@Jry,@JrD⟩⟩⟩,⟨⟨@Jqp,⟨@Jp3,@Jrl⟩⟩,⟨@Jsu,⟨@JrV,@Jp8⟩⟩⟩⟩,⟨⟨⟨@Jq0,⟨@Jsc,@JpK⟩⟩,⟨@JqA,⟨@JuR,@JkV⟩⟩⟩,⟨⟨@JlD,⟨@Jk5,@JlV⟩⟩,⟨@JkI,⟨@JB3,@JxM⟩⟩⟩⟩⟩
theorem y_65:(((((type_of% @Jyx)∧(type_of% @Jr8))∧((type_of% @Jqb)∧((type_of% @Jrp)∧(type_of% @Jsk))))∧(((type_of% @Jrn)∧((type_of% @Jsf)∧(type_of% @Jrw)))∧((type_of% @Jss)∧((type_of% @Jql)∧(type_of% @JqV)))))∧((((type_of% @Jqx)∧(type_of% @JrG))∧((type_of% @Jrv)∧((type_of% @Jlj)∧(type_of% @Jkz))))∧(((type_of% @Jk2)∧((type_of% @Jk7)∧(type_of% @Jlv)))∧((type_of% @JkX)∧((type_of% @JBP)∧(type_of% @JwA)))))):=⟨⟨⟨⟨@Jyx,@Jr8⟩,⟨@Jqb,⟨@Jrp,@Jsk⟩⟩⟩,⟨⟨@Jrn,⟨@Jsf,@Jrw⟩⟩,⟨@Jss,⟨@Jql,@JqV⟩⟩⟩⟩,⟨⟨⟨@Jqx,@JrG⟩,⟨@Jrv,⟨@Jlj,@Jkz⟩⟩⟩,⟨⟨@Jk2,⟨@Jk7,@Jlv⟩⟩,⟨@JkX,⟨@JBP,@JwA⟩⟩⟩⟩⟩
theorem y_70:((((type_of% @JxK)∧((type_of% @Jz3)∧(type_of% @Jqu)))∧((type_of% @Jsg)∧((type_of% @JrH)∧(type_of% @Jsa))))∧(((type_of% @Jsq)∧((type_of% @JqT)∧(type_of% @JtM)))∧(((type_of% @Jlc)∧(type_of% @JkT))∧((type_of% @JBW)∧(type_of% @JwL))))):=⟨⟨⟨@JxK,⟨@Jz3,@Jqu⟩⟩,⟨@Jsg,⟨@JrH,@Jsa⟩⟩⟩,⟨⟨@Jsq,⟨@JqT,@JtM⟩⟩,⟨⟨@Jlc,@JkT⟩,⟨@JBW,@JwL⟩⟩⟩⟩
theorem y_78:((((type_of% @Jxv)∧(type_of% @Jyt))∧((type_of% @Jqn)∧((type_of% @JpO)∧(type_of% @JmC))))∧(((type_of% @JrE)∧((type_of% @JpP)∧(type_of% @Jt6)))∧((type_of% @JkD)∧((type_of% @JB2)∧(type_of% @JwB))))):=⟨⟨⟨@Jxv,@Jyt⟩,⟨@Jqn,⟨@JpO,@JmC⟩⟩⟩,⟨⟨@JrE,⟨@JpP,@Jt6⟩⟩,⟨@JkD,⟨@JB2,@JwB⟩⟩⟩⟩
theorem y_80:(((type_of% @JrF)∧(type_of% @JuH))∧((type_of% @JuP)∧(type_of% @JsW))):=⟨⟨@JrF,@JuH⟩,⟨@JuP,@JsW⟩⟩
theorem y_81:(((type_of% @Jsv)∧(type_of% @JtH))∧((type_of% @Jtv)∧(type_of% @JqQ))):=⟨⟨@Jsv,@JtH⟩,⟨@Jtv,@JqQ⟩⟩
theorem y_90:(((((type_of% @Jwv)∧(type_of% @Jrx))∧((type_of% @Jzt)∧((type_of% @JqR)∧(type_of% @JrN))))∧(((type_of% @Jq7)∧(type_of% @JpT))∧((type_of% @JqU)∧((type_of% @Jsh)∧(type_of% @JpZ)))))∧((((type_of% @JpM)∧(type_of% @JsI))∧((type_of% @JqF)∧((type_of% @JtT)∧(type_of% @Jkx))))∧(((type_of% @Jlh)∧(type_of% @Jlq))∧((type_of% @JlX)∧((type_of% @JBZ)∧(type_of% @Jw0)))))):=⟨⟨⟨⟨@Jwv,@Jrx⟩,⟨@Jzt,⟨@JqR,@JrN⟩⟩⟩,⟨⟨@Jq7,@JpT⟩,⟨@JqU,⟨@Jsh,@JpZ⟩⟩⟩⟩,⟨⟨⟨@JpM,@JsI⟩,⟨@JqF,⟨@JtT,@Jkx⟩⟩⟩,⟨⟨@Jlh,@Jlq⟩,⟨@JlX,⟨@JBZ,@Jw0⟩⟩⟩⟩⟩
theorem y_99:(((((type_of% @Jz7)∧(type_of% @Jp4))∧((type_of% @Jrk)∧(type_of% @Jrd)))∧(((type_of% @JrA)∧(type_of% @Jp9))∧((type_of% @Jqg)∧((type_of% @JrP)∧(type_of% @JpL)))))∧((((type_of% @JrJ)∧(type_of% @JqN))∧((type_of% @Jro)∧((type_of% @JlU)∧(type_of% @Jk4))))∧(((type_of% @JkW)∧(type_of% @JkB))∧((type_of% @JkN)∧((type_of% @JBL)∧(type_of% @Jxi)))))):=⟨⟨⟨⟨@Jz7,@Jp4⟩,⟨@Jrk,@Jrd⟩⟩,⟨⟨@JrA,@Jp9⟩,⟨@Jqg,⟨@JrP,@JpL⟩⟩⟩⟩,⟨⟨⟨@JrJ,@JqN⟩,⟨@Jro,⟨@JlU,@Jk4⟩⟩⟩,⟨⟨@JkW,@JkB⟩,⟨@JkN,⟨@JBL,@Jxi⟩⟩⟩⟩⟩
theorem Jts:(((((type_of% @Jw2)∧(type_of% @JoE))∧((type_of% @Jn7)∧(type_of% @Job)))∧(((type_of% @JoB)∧(type_of% @JoO))∧((type_of% @JoT)∧(type_of% @JnE))))∧((((type_of% @Jnn)∧(type_of% @JoS))∧((type_of% @JjY)∧(type_of% @JjZ)))∧(((type_of% @Jj4)∧(type_of% @JjX))∧((type_of% @JyE)∧(type_of% @JtP))))):=⟨⟨⟨⟨@Jw2,@JoE⟩,⟨@Jn7,@Job⟩⟩,⟨⟨@JoB,@JoO⟩,⟨@JoT,@JnE⟩⟩⟩,⟨⟨⟨@Jnn,@JoS⟩,⟨@JjY,@JjZ⟩⟩,⟨⟨@Jj4,@JjX⟩,⟨@JyE,@JtP⟩⟩⟩⟩
theorem JD1:((((type_of% @Jum)∧(type_of% @JxO))∧((type_of% @JoL)∧((type_of% @Jm0)∧(type_of% @Jk0))))∧(((type_of% @Jov)∧((type_of% @Jnz)∧(type_of% @Jsz)))∧((type_of% @JjW)∧((type_of% @Jzw)∧(type_of% @JtD))))):=⟨⟨⟨@Jum,@JxO⟩,⟨@JoL,⟨@Jm0,@Jk0⟩⟩⟩,⟨⟨@Jov,⟨@Jnz,@Jsz⟩⟩,⟨@JjW,⟨@Jzw,@JtD⟩⟩⟩⟩
theorem JBS:(((type_of% @JtJ)∧(type_of% @JxE))∧((type_of% @Jox)∧(type_of% @JsP))):=⟨⟨@JtJ,@JxE⟩,⟨@Jox,@JsP⟩⟩
theorem Jju:(((((type_of% @Jxa)∧(type_of% @JnZ))∧((type_of% @Jn5)∧(type_of% @JoD)))∧(((type_of% @Joo)∧(type_of% @Jn3))∧((type_of% @Jn2)∧(type_of% @JnT))))∧((((type_of% @JnP)∧(type_of% @Jm9))∧((type_of% @JjS)∧(type_of% @Jkc)))∧(((type_of% @Jj7)∧(type_of% @JjP))∧((type_of% @JyI)∧(type_of% @JvL))))):=⟨⟨⟨⟨@Jxa,@JnZ⟩,⟨@Jn5,@JoD⟩⟩,⟨⟨@Joo,@Jn3⟩,⟨@Jn2,@JnT⟩⟩⟩,⟨⟨⟨@JnP,@Jm9⟩,⟨@JjS,@Jkc⟩⟩,⟨⟨@Jj7,@JjP⟩,⟨@JyI,@JvL⟩⟩⟩⟩
theorem Jyj:((((type_of% @Jur)∧(type_of% @Jww))∧((type_of% @Jn4)∧((type_of% @Jni)∧(type_of% @Jkt))))∧(((type_of% @Jnx)∧((type_of% @Jnb)∧(type_of% @JqK)))∧((type_of% @JjT)∧((type_of% @JyP)∧(type_of% @JtC))))):=⟨⟨⟨@Jur,@Jww⟩,⟨@Jn4,⟨@Jni,@Jkt⟩⟩⟩,⟨⟨@Jnx,⟨@Jnb,@JqK⟩⟩,⟨@JjT,⟨@JyP,@JtC⟩⟩⟩⟩
theorem Jnm:((((type_of% @Jn6)∧(type_of% @JqG))∧((type_of% @JvI)∧((type_of% @Jw1)∧(type_of% @Jri))))∧(((type_of% @Jny)∧((type_of% @Jrc)∧(type_of% @Jsi)))∧((type_of% @Jok)∧((type_of% @Jz0)∧(type_of% @Jva))))):=⟨⟨⟨@Jn6,@JqG⟩,⟨@JvI,⟨@Jw1,@Jri⟩⟩⟩,⟨⟨@Jny,⟨@Jrc,@Jsi⟩⟩,⟨@Jok,⟨@Jz0,@Jva⟩⟩⟩⟩
theorem JD0:((((type_of% @JtX)∧(type_of% @Jrr))∧((type_of% @JvO)∧((type_of% @JtZ)∧(type_of% @Jxe))))∧(((type_of% @JnK)∧(type_of% @JnJ))∧((type_of% @Jp6)∧((type_of% @Jzn)∧(type_of% @Jut))))):=⟨⟨⟨@JtX,@Jrr⟩,⟨@JvO,⟨@JtZ,@Jxe⟩⟩⟩,⟨⟨@JnK,@JnJ⟩,⟨@Jp6,⟨@Jzn,@Jut⟩⟩⟩⟩
theorem Jtr:(((((type_of% @JvE)∧(type_of% @Jm6))∧((type_of% @Jxw)∧(type_of% @Jm2)))∧(((type_of% @JoX)∧(type_of% @JnQ))∧((type_of% @Joi)∧(type_of% @JoU))))∧((((type_of% @Jot)∧(type_of% @JoG))∧((type_of% @JoY)∧(type_of% @JpW)))∧(((type_of% @Jka)∧(type_of% @Jj9))∧((type_of% @Jj0)∧((type_of% @Jzf)∧(type_of% @Juj)))))):=⟨⟨⟨⟨@JvE,@Jm6⟩,⟨@Jxw,@Jm2⟩⟩,⟨⟨@JoX,@JnQ⟩,⟨@Joi,@JoU⟩⟩⟩,⟨⟨⟨@Jot,@JoG⟩,⟨@JoY,@JpW⟩⟩,⟨⟨@Jka,@Jj9⟩,⟨@Jj0,⟨@Jzf,@Juj⟩⟩⟩⟩⟩
theorem JD3:(((type_of% @JvJ)∧(type_of% @JxD))∧((type_of% @JoH)∧((type_of% @Jq1)∧(type_of% @JrX)))):=⟨⟨@JvJ,@JxD⟩,⟨@JoH,⟨@Jq1,@JrX⟩⟩⟩
theorem JCb:((type_of% @Jp1)∧(type_of% @Jnj)):=⟨@Jp1,@Jnj⟩
theorem JB5:((type_of% @JrQ)∧(type_of% @Jm8)):=⟨@JrQ,@Jm8⟩
theorem JDQ:Jc Tryz.prog 9:=Jg Tryz.func9 (by kernel_rfl) (by kernel_rfl)
theorem JCt:Jc Tryz.prog 11:=Jg Tryz.func11 (by kernel_rfl) (by kernel_rfl)
theorem JDd:Jc Tryz.prog 12:=Jg Tryz.func12 (by kernel_rfl) (by kernel_rfl)
theorem Jxx:Jc Tryz.prog 13:=Jg Tryz.func13 (by kernel_rfl) (by kernel_rfl)
theorem JwT:Jc Tryz.prog 14:=Jg Tryz.func14 (by kernel_rfl) (by kernel_rfl)
theorem JCP:Jc Tryz.prog 20:=Jg Tryz.func20 (by kernel_rfl) (by kernel_rfl)
theorem JCY:Jc Tryz.prog 21:=Jg Tryz.func21 (by kernel_rfl) (by kernel_rfl)
theorem JwN:Jc Tryz.prog 22:=Jg Tryz.func22 (by kernel_rfl) (by kernel_rfl)
theorem JwJ:Jc Tryz.prog 23:=Jg Tryz.func23 (by kernel_rfl) (by kernel_rfl)
theorem JwX:Jc Tryz.prog 24:=Jg Tryz.func24 (by kernel_rfl) (by kernel_rfl)
theorem JDa:Jc Tryz.prog 26:=Jg Tryz.func26 (by kernel_rfl) (by kernel_rfl)
theorem JwS:Jc Tryz.prog 31:=Jg Tryz.func31 (by kernel_rfl) (by kernel_rfl)
theorem JCy:Jc Tryz.prog 32:=Jg Tryz.func32 (by kernel_rfl) (by kernel_rfl)
theorem JCI:Jc Tryz.prog 33:=Jg Tryz.func33 (by kernel_rfl) (by kernel_rfl)
theorem JCj:Jc Tryz.prog 34:=Jg Tryz.func34 (by kernel_rfl) (by kernel_rfl)
theorem JCM:Jc Tryz.prog 35:=Jg Tryz.func35 (by kernel_rfl) (by kernel_rfl)
theorem JCc:Jc Tryz.prog 36:=Jg Tryz.func36 (by kernel_rfl) (by kernel_rfl)
theorem JCr:Jc Tryz.prog 37:=Jg Tryz.func37 (by kernel_rfl) (by kernel_rfl)
theorem Jxc:Jc Tryz.prog 38:=Jg Tryz.func38 (by kernel_rfl) (by kernel_rfl)
theorem JC4:Jc Tryz.prog 39:=Jg Tryz.func39 (by kernel_rfl) (by kernel_rfl)
theorem JCA:Jc Tryz.prog 46:=Jg Tryz.func46 (by kernel_rfl) (by kernel_rfl)
theorem JDf:Jc Tryz.prog 47:=Jg Tryz.func47 (by kernel_rfl) (by kernel_rfl)
theorem JCu:Jc Tryz.prog 48:=Jg Tryz.func48 (by kernel_rfl) (by kernel_rfl)
theorem JDk:Jc Tryz.prog 49:=Jg Tryz.func49 (by kernel_rfl) (by kernel_rfl)
theorem JCZ:Jc Tryz.prog 50:=Jg Tryz.func50 (by kernel_rfl) (by kernel_rfl)
theorem JCH:Jc Tryz.prog 51:=Jg Tryz.func51 (by kernel_rfl) (by kernel_rfl)
theorem JCl:Jc Tryz.prog 52:=Jg Tryz.func52 (by kernel_rfl) (by kernel_rfl)
theorem JDe:Jc Tryz.prog 53:=Jg Tryz.func53 (by kernel_rfl) (by kernel_rfl)
theorem JC9:Jc Tryz.prog 54:=Jg Tryz.func54 (by kernel_rfl) (by kernel_rfl)
theorem JCe:Jc Tryz.prog 55:=Jg Tryz.func55 (by kernel_rfl) (by kernel_rfl)
theorem JCv:Jc Tryz.prog 56:=Jg Tryz.func56 (by kernel_rfl) (by kernel_rfl)
theorem JCf:Jc Tryz.prog 57:=Jg Tryz.func57 (by kernel_rfl) (by kernel_rfl)
theorem JxC:Jc Tryz.prog 58:=Jg Tryz.func58 (by kernel_rfl) (by kernel_rfl)
theorem Jxy:Jc Tryz.prog 60:=Jg Tryz.func60 (by kernel_rfl) (by kernel_rfl)
theorem JDh:Jc Tryz.prog 66:=Jg Tryz.func66 (by kernel_rfl) (by kernel_rfl)
theorem JCw:Jc Tryz.prog 67:=Jg Tryz.func67 (by kernel_rfl) (by kernel_rfl)
theorem JpC:Jc Tryz.prog 68:=Jg Tryz.func68 (by kernel_rfl) (by kernel_rfl)
theorem JCk:Jc Tryz.prog 69:=Jg Tryz.func69 (by kernel_rfl) (by kernel_rfl)
theorem Jpv:Jc Tryz.prog 70:=Jg Tryz.func70 (by kernel_rfl) (by kernel_rfl)
theorem JCL:Jc Tryz.prog 71:=Jg Tryz.func71 (by kernel_rfl) (by kernel_rfl)
theorem Jpb:Jc Tryz.prog 72:=Jg Tryz.func72 (by kernel_rfl) (by kernel_rfl)
theorem JCQ:Jc Tryz.prog 73:=Jg Tryz.func73 (by kernel_rfl) (by kernel_rfl)
theorem JCK:Jc Tryz.prog 74:=Jg Tryz.func74 (by kernel_rfl) (by kernel_rfl)
theorem JCG:Jc Tryz.prog 75:=Jg Tryz.func75 (by kernel_rfl) (by kernel_rfl)
theorem JCW:Jc Tryz.prog 76:=Jg Tryz.func76 (by kernel_rfl) (by kernel_rfl)
theorem JCn:Jc Tryz.prog 77:=Jg Tryz.func77 (by kernel_rfl) (by kernel_rfl)
theorem JCm:Jc Tryz.prog 78:=Jg Tryz.func78 (by kernel_rfl) (by kernel_rfl)
theorem JCX:Jc Tryz.prog 79:=Jg Tryz.func79 (by kernel_rfl) (by kernel_rfl)
theorem JC6:Jc Tryz.prog 80:=Jg Tryz.func80 (by kernel_rfl) (by kernel_rfl)
theorem JCx:Jc Tryz.prog 81:=Jg Tryz.func81 (by kernel_rfl) (by kernel_rfl)
theorem JC5:Jc Tryz.prog 85:=Jg Tryz.func85 (by kernel_rfl) (by kernel_rfl)
theorem Jo9:Jc Tryz.prog 86:=Jg Tryz.func86 (by kernel_rfl) (by kernel_rfl)
theorem JC7:Jc Tryz.prog 90:=Jg Tryz.func90 (by kernel_rfl) (by kernel_rfl)
theorem JDc:Jc Tryz.prog 91:=Jg Tryz.func91 (by kernel_rfl) (by kernel_rfl)
theorem JAw:Jc Tryz.prog 100:=Jg Tryz.func100 (by kernel_rfl) (by kernel_rfl)
theorem JAn:Jc Tryz.prog 101:=Jg Tryz.func101 (by kernel_rfl) (by kernel_rfl)
theorem JvQ:Jc Tryz.prog 102:=Jg Tryz.func102 (by kernel_rfl) (by kernel_rfl)
theorem Ju6:Jc Tryz.prog 103:=Jg Tryz.func103 (by kernel_rfl) (by kernel_rfl)
theorem JA9:Jc Tryz.prog 104:=Jg Tryz.func104 (by kernel_rfl) (by kernel_rfl)
theorem JAv:Jc Tryz.prog 105:=Jg Tryz.func105 (by kernel_rfl) (by kernel_rfl)
theorem JBm:Jc Tryz.prog 106:=Jg Tryz.func106 (by kernel_rfl) (by kernel_rfl)
theorem JBD:Jc Tryz.prog 108:=Jg Tryz.func108 (by kernel_rfl) (by kernel_rfl)
theorem JAS:Jc Tryz.prog 109:=Jg Tryz.func109 (by kernel_rfl) (by kernel_rfl)
theorem JA6:Jc Tryz.prog 110:=Jg Tryz.func110 (by kernel_rfl) (by kernel_rfl)
theorem JAN:Jc Tryz.prog 114:=Jg Tryz.func114 (by kernel_rfl) (by kernel_rfl)
theorem JAJ:Jc Tryz.prog 115:=Jg Tryz.func115 (by kernel_rfl) (by kernel_rfl)
theorem JA4:Jc Tryz.prog 116:=Jg Tryz.func116 (by kernel_rfl) (by kernel_rfl)
theorem JtO:Jc Tryz.prog 121:=Jg Tryz.func121 (by kernel_rfl) (by kernel_rfl)
theorem JBi:Jc Tryz.prog 122:=Jg Tryz.func122 (by kernel_rfl) (by kernel_rfl)
theorem JAQ:Jc Tryz.prog 123:=Jg Tryz.func123 (by kernel_rfl) (by kernel_rfl)
theorem JBI:Jc Tryz.prog 124:=Jg Tryz.func124 (by kernel_rfl) (by kernel_rfl)
theorem JAd:Jc Tryz.prog 125:=Jg Tryz.func125 (by kernel_rfl) (by kernel_rfl)
theorem JAH:Jc Tryz.prog 126:=Jg Tryz.func126 (by kernel_rfl) (by kernel_rfl)
theorem JBz:Jc Tryz.prog 127:=Jg Tryz.func127 (by kernel_rfl) (by kernel_rfl)
theorem JAG:Jc Tryz.prog 128:=Jg Tryz.func128 (by kernel_rfl) (by kernel_rfl)
theorem JmR:Jc Tryz.prog 129:=Jg Tryz.func129 (by kernel_rfl) (by kernel_rfl)
theorem JBx:Jc Tryz.prog 130:=Jg Tryz.func130 (by kernel_rfl) (by kernel_rfl)
theorem JAD:Jc Tryz.prog 131:=Jg Tryz.func131 (by kernel_rfl) (by kernel_rfl)
theorem JBt:Jc Tryz.prog 132:=Jg Tryz.func132 (by kernel_rfl) (by kernel_rfl)
theorem JBr:Jc Tryz.prog 133:=Jg Tryz.func133 (by kernel_rfl) (by kernel_rfl)
theorem JAW:Jc Tryz.prog 138:=Jg Tryz.func138 (by kernel_rfl) (by kernel_rfl)
theorem JAh:Jc Tryz.prog 143:=Jg Tryz.func143 (by kernel_rfl) (by kernel_rfl)
theorem JBq:Jc Tryz.prog 144:=Jg Tryz.func144 (by kernel_rfl) (by kernel_rfl)
theorem JBa:Jc Tryz.prog 145:=Jg Tryz.func145 (by kernel_rfl) (by kernel_rfl)
theorem JAL:Jc Tryz.prog 146:=Jg Tryz.func146 (by kernel_rfl) (by kernel_rfl)
theorem JAz:Jc Tryz.prog 147:=Jg Tryz.func147 (by kernel_rfl) (by kernel_rfl)
theorem JA3:Jc Tryz.prog 148:=Jg Tryz.func148 (by kernel_rfl) (by kernel_rfl)
theorem JAM:Jc Tryz.prog 149:=Jg Tryz.func149 (by kernel_rfl) (by kernel_rfl)
theorem JBk:Jc Tryz.prog 159:=Jg Tryz.func159 (by kernel_rfl) (by kernel_rfl)
theorem JBn:Jc Tryz.prog 160:=Jg Tryz.func160 (by kernel_rfl) (by kernel_rfl)
theorem JAR:Jc Tryz.prog 161:=Jg Tryz.func161 (by kernel_rfl) (by kernel_rfl)
theorem JAF:Jc Tryz.prog 162:=Jg Tryz.func162 (by kernel_rfl) (by kernel_rfl)
theorem JvM:Jc Tryz.prog 163:=Jg Tryz.func163 (by kernel_rfl) (by kernel_rfl)
theorem JAf:Jc Tryz.prog 166:=Jg Tryz.func166 (by kernel_rfl) (by kernel_rfl)
theorem JBo:Jc Tryz.prog 167:=Jg Tryz.func167 (by kernel_rfl) (by kernel_rfl)
theorem JAr:Jc Tryz.prog 174:=Jg Tryz.func174 (by kernel_rfl) (by kernel_rfl)
theorem JBp:Jc Tryz.prog 177:=Jg Tryz.func177 (by kernel_rfl) (by kernel_rfl)
theorem JAK:Jc Tryz.prog 180:=Jg Tryz.func180 (by kernel_rfl) (by kernel_rfl)
theorem Jxz(l:List UInt8):u8s l=List.map dU l:=rfl
theorem mixed:Tryz.prog.follows .mixedOrders=true:=Tryz.checked.mixed
theorem Jo{α:Type}(σ:Nat→α)(d:Nat)(x:α)(i:Nat):upd σ d x i=if i=d then x else σ i:=rfl
theorem JjU{α:Type}(l:List α)(i:Nat):(l.drop i).take (l.length-i)=l.drop i:=List.take_of_length_le (by simp)
theorem JsD{α β:Type}(f:α→β)(l:List α)(i:Nat):(l.map f).drop i=(l.drop i).map f:=List.map_drop.symm
theorem JqH{α β:Type}(f:α→β)(l:List α)(i:Nat):(l.map f).take i=(l.take i).map f:=List.map_take.symm
theorem Js{S R:Type}{b:S→Option (S ⊕ R)}{n:Nat}{x:Option R}{o:S ⊕ R}{out:R}(h:inrO x=some o)(hF:Fin' b n o out):x=some out:=by
 obtain⟨r,h1,rfl⟩:=Jy9 h
 cases hF
 exact h1
theorem JF{S R:Type}{b:S→Option (S ⊕ R)}{n:Nat}{s:S}{o:S ⊕ R}{out:R}(h:(some (.inl s):Option (S ⊕ R))=some o)(hF:Fin' b n o out):Fin' b n (.inl s) out:=by
 obtain rfl:=Option.some.inj h
 exact hF
end Go.Proofs.YtfkhlbhjhdpkoaaGreatDoor
